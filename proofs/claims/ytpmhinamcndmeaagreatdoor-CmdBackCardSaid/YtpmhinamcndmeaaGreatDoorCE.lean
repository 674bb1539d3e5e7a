/- Part of the proofs of: For every command it is told whether it may be and why not, and in words, and back, as far as its verb has it. -/
import Derived.Test.YtpmhinamcndmeaaGreatDoorCD
set_option linter.unusedVariables false
set_option linter.unusedSimpArgs false
set_option linter.unusedSectionVars false
section
namespace Go.S
open Go
def ofP : List Rectoref3Part → Int → Err
  | [], e => .no e
  | p :: r, e => .fault p.word p.at_ (ofP r e)
def ofW (w : Rectoref3WrongP) : Err := if w.err = 0 then .nil else ofP w.parts w.err
theorem decF_len : ∀ (f u : Nat), (decF f u).length ≤ f
  | 0, u => by simp [decF]
  | f + 1, u => by
    unfold decF
    split
    · simp
    · have := decF_len f (u / 10); simp; omega
theorem itoaS_len (n : Int) : (itoaS n).length ≤ 21 := by
  unfold itoaS
  split
  · have := decF_len 20 n.natAbs; simp; omega
  · have := decF_len 20 n.toNat; omega
def preD (u : Nat) : List UInt8 := if u < 10 then [] else Lib.decDigits (u / 10)
theorem preD_eq (u : Nat) : preD u ++ [UInt8.ofNat (48 + u % 10)] = Lib.decDigits u := by
  unfold preD
  conv => rhs; rw [Lib.decDigits]
  by_cases h : u < 10
  · simp [h, Nat.mod_eq_of_lt h]
  · simp [h]
theorem decimal_ok {n : Int} (h0 : 0 ≤ n) (h1 : n ≤ 9223372036854775807) : Sh.rectoref3_Decimal n = some (itoaS n) := by
  rw [itoaS_eq ⟨by omega, h1⟩]
  apply Ok.eq
  unfold Sh.rectoref3_Decimal Lib.itoa
  simp only [ok_if, ok_gd, ok_lt]
  rw [if_neg (by omega)]
  refine ⟨fun h => by omega, fun _ => ⟨⟨h0, by omega⟩, ⟨by omega, by omega⟩, ⟨by omega, by omega⟩, ⟨by omega, by omega⟩, ?_⟩⟩
  refine ok_iter (I := fun t => 0 ≤ t.1 ∧ t.1 ≤ n ∧ preD t.1.toNat ++ t.2 = Lib.decDigits n.toNat ∧ t.2.length + t.1 ≤ n + 1) (μ := fun t => t.1.toNat) ?_ ⟨h0, by dsimp only; omega, ?_, by simp; omega⟩
  · rintro ⟨m, s⟩ ⟨m0, m1, m2, m3⟩
    dsimp only at m0 m1 m2 m3 ⊢
    simp only [ok_if, ok_up, ok_bd, ok_gd, ok_lt, ok_go, ok_some, ok_at]
    refine ⟨fun h => ?_, fun h => ?_⟩
    · refine ⟨⟨⟨m0, by omega⟩, ⟨by omega, by omega⟩⟩, ⟨by omega, by omega⟩, ⟨by omega, by omega⟩, ⟨by omega, by omega⟩, ⟨by omega, by omega⟩, by simp; omega, ⟨by omega, by omega, ?_, by simp; omega⟩, by omega⟩
      rw [← m2, ← List.append_assoc]
      congr 1
      have e1 : preD m.toNat = Lib.decDigits (m.toNat / 10) := by unfold preD; rw [if_neg (by omega)]
      rw [e1, ← preD_eq]
      rw [show (m / 10).toNat = m.toNat / 10 by omega, show (48 + m / 10 % 10).toNat = 48 + m.toNat / 10 % 10 by omega]
    · have e1 : preD m.toNat = [] := by unfold preD; rw [if_pos (by omega)]
      rw [e1] at m2; exact m2
  · rw [← preD_eq n.toNat, show (48 + n % 10).toNat = 48 + n.toNat % 10 by omega]
theorem decimal_r_ok {n : Int} (h0 : 0 ≤ n) (h1 : n ≤ 9223372036854775807) : Sh.rectoref3_Decimal_r n = some (itoaS n) := by
  rw [itoaS_eq ⟨by omega, h1⟩]
  apply Ok.eq
  unfold Sh.rectoref3_Decimal_r Lib.itoa
  simp only [ok_if, ok_gd, ok_lt]
  rw [if_neg (by omega)]
  refine ⟨fun h => by omega, fun _ => ⟨⟨h0, by omega⟩, ⟨by omega, by omega⟩, ⟨by omega, by omega⟩, ⟨by omega, by omega⟩, ?_⟩⟩
  refine ok_iter (I := fun t => 0 ≤ t.1 ∧ t.1 ≤ n ∧ preD t.1.toNat ++ t.2 = Lib.decDigits n.toNat ∧ t.2.length + t.1 ≤ n + 1) (μ := fun t => t.1.toNat) ?_ ⟨h0, by dsimp only; omega, ?_, by simp; omega⟩
  · rintro ⟨m, s⟩ ⟨m0, m1, m2, m3⟩
    dsimp only at m0 m1 m2 m3 ⊢
    simp only [ok_if, ok_up, ok_bd, ok_gd, ok_lt, ok_go, ok_some, ok_at]
    refine ⟨fun h => ?_, fun h => ?_⟩
    · refine ⟨⟨⟨m0, by omega⟩, ⟨by omega, by omega⟩⟩, ⟨by omega, by omega⟩, ⟨by omega, by omega⟩, ⟨by omega, by omega⟩, ⟨by omega, by omega⟩, by simp; omega, ⟨by omega, by omega, ?_, by simp; omega⟩, by omega⟩
      rw [← m2, ← List.append_assoc]
      congr 1
      have e1 : preD m.toNat = Lib.decDigits (m.toNat / 10) := by unfold preD; rw [if_neg (by omega)]
      rw [e1, ← preD_eq]
      rw [show (m / 10).toNat = m.toNat / 10 by omega, show (48 + m / 10 % 10).toNat = 48 + m.toNat / 10 % 10 by omega]
    · have e1 : preD m.toNat = [] := by unfold preD; rw [if_pos (by omega)]
      rw [e1] at m2; exact m2
  · rw [← preD_eq n.toNat, show (48 + n % 10).toNat = 48 + n.toNat % 10 by omega]
theorem decimal_all {n : Int} (h : I64 n) : Sh.rectoref3_Decimal n = some (itoaS n) := by
  by_cases h0 : 0 ≤ n
  · exact decimal_ok h0 h.2
  · obtain ⟨h1, h2⟩ := h
    by_cases hm : n = -9223372036854775808
    · subst hm; decide +kernel
    apply Ok.eq
    unfold Sh.rectoref3_Decimal
    rw [if_pos (by omega), if_neg hm]
    simp only [ok_gd, ok_lt, ok_bd, ok_some]
    have hl := itoaS_len (0 - n)
    refine ⟨⟨by omega, by omega⟩, Ok.of (decimal_r_ok (by omega) (by omega)) ⟨by rw [List.length_singleton]; omega, ?_⟩⟩
    unfold itoaS
    rw [if_neg (by omega), if_pos (by omega), show (0 - n).toNat = n.natAbs by omega]
    rfl
theorem word_ok {e : Int} (h0 : 1 ≤ e) (h1 : e ≤ 14) : ∃ s, Sh.rectoref3_Word e = some s ∧ Sh.api_Errno_Error e = some s ∧ s.length ≤ 10 := by
  have : e = 1 ∨ e = 2 ∨ e = 3 ∨ e = 4 ∨ e = 5 ∨ e = 6 ∨ e = 7 ∨ e = 8 ∨ e = 9 ∨ e = 10 ∨ e = 11 ∨ e = 12 ∨ e = 13 ∨ e = 14 := by omega
  rcases this with h | h | h | h | h | h | h | h | h | h | h | h | h | h <;> subst h <;> exact ⟨_, rfl, rfl, by decide⟩
noncomputable def wordS (e : Int) : List UInt8 := (Sh.rectoref3_Word e).getD []
noncomputable def wordsS : List Rectoref3Part → Int → List UInt8
  | [], e => wordS e
  | p :: r, e => p.word ++ [32] ++ itoaS p.at_ ++ [58, 32] ++ wordsS r e
def Pok (l : List Rectoref3Part) : Prop := ∀ p ∈ l, p.word.length ≤ 1000 ∧ 0 ≤ p.at_ ∧ p.at_ ≤ 9223372036854775807
theorem wordsS_len (e : Int) (h0 : 1 ≤ e) (h1 : e ≤ 14) : ∀ (l : List Rectoref3Part), Pok l → (wordsS l e).length ≤ 10 + 1024 * l.length
  | [], _ => by
    obtain ⟨s, h, _, hl⟩ := word_ok h0 h1
    simp [wordsS, wordS, h, hl]
  | p :: r, h => by
    have := wordsS_len e h0 h1 r fun q hq => h q (List.mem_cons_of_mem _ hq)
    have := itoaS_len p.at_
    have := (h p (List.mem_cons_self ..)).1
    simp only [wordsS, List.length_append, List.length_cons, List.length_nil]
    omega
theorem words_ok {w : Rectoref3WrongP} (h0 : 1 ≤ w.err) (h1 : w.err ≤ 14) (hp : Pok w.parts) (hl : w.parts.length ≤ 1000) : Sh.rectoref3_Words w = some (wordsS w.parts w.err) := by
  obtain ⟨parts, e⟩ := w
  dsimp only at h0 h1 hp hl ⊢
  apply Ok.eq
  unfold Sh.rectoref3_Words
  refine ok_iter (I := fun t => 0 ≤ t.2 ∧ t.2 ≤ parts.length ∧ t.1 ++ wordsS (parts.drop t.2.toNat) e = wordsS parts e) (μ := fun t => (parts.length - t.2).toNat) ?_ ⟨by simp, by simp, by simp⟩
  rintro ⟨s, i⟩ ⟨i0, i1, i2⟩
  dsimp only at i0 i1 i2 ⊢
  have hlen := congrArg List.length i2
  rw [List.length_append] at hlen
  have hw := wordsS_len e h0 h1 parts hp
  simp only [ok_if, ok_up, ok_bd, ok_gd, ok_lt, ok_go, ok_some, ok_at]
  refine ⟨fun hi => ?_, fun hi => ?_⟩
  · obtain ⟨z, hz⟩ := at_get (l := parts) i0 hi
    obtain ⟨z1, z2, z3⟩ := hp z (List.mem_of_getElem? hz)
    have := itoaS_len z.at_
    have hd : parts.drop i.toNat = z :: parts.drop (i + 1).toNat := by
      rw [show (i + 1).toNat = i.toNat + 1 by omega]
      have hlt := (List.getElem?_eq_some_iff.1 hz)
      rw [List.drop_eq_getElem_cons hlt.1, hlt.2]
    refine ⟨i0, z, hz, by omega, by simp; omega, i0, z, hz, Ok.of (decimal_ok z2 z3) ⟨by simp; omega, by simp; omega, ⟨by omega, by omega⟩, ⟨by omega, by omega, ?_⟩, by omega⟩⟩
    rw [← i2, hd, wordsS]
    simp
  · rw [show i.toNat = parts.length by omega, List.drop_length] at i2
    obtain ⟨q, hq, _, hl⟩ := word_ok h0 h1
    have e1 : wordsS [] e = q := by simp [wordsS, wordS, hq]
    rw [e1] at i2
    refine Ok.of hq ⟨by omega, i2⟩
theorem ofP_some (l : List Rectoref3Part) (e : Int) : (ofP l e).isNil = false ∧ endNo (ofP l e) = some e := by
  induction l with
  | nil => exact ⟨rfl, rfl⟩
  | cons p r ih => exact ⟨rfl, ih.2⟩
theorem erText_ok {e : Int} (h0 : 1 ≤ e) (h1 : e ≤ 14) : ∀ (l : List Rectoref3Part), Pok l → l.length ≤ 1000 → Sh.erText (ofP l e) = some (wordsS l e)
  | [], _, _ => by
    obtain ⟨s, h, h', hl⟩ := word_ok h0 h1
    simp [ofP, Sh.erText, wordsS, wordS, h, h']
  | p :: r, h, hl => by
    have ih := erText_ok h0 h1 r (fun q hq => h q (List.mem_cons_of_mem _ hq)) (by simp at hl; omega)
    obtain ⟨z1, z2, z3⟩ := h p (List.mem_cons_self ..)
    have hw := wordsS_len e h0 h1 r fun q hq => h q (List.mem_cons_of_mem _ hq)
    have hi := itoaS_len p.at_
    simp only [List.length_cons] at hl
    apply Ok.eq
    simp only [ofP, Sh.erText]
    unfold Sh.api_Fault_Error
    rw [ih]
    dsimp only
    rw [(ofP_some r e).1, if_neg (by simp)]
    simp only [ok_if, ok_up, ok_bd, ok_gd, ok_lt, ok_go, ok_some, ok_at]
    refine ⟨by simp; omega, ⟨by omega, z3⟩, by simp; omega, by simp; omega, by simp; omega, ?_⟩
    simp [wordsS]
theorem tells_ok {w : Rectoref3WrongP} (h0 : 0 ≤ w.err) (h1 : w.err ≤ 14) (hp : Pok w.parts) (hl : w.parts.length ≤ 1000) : Sh.rectolaw2_Tells (ofW w) w = some true := by
  apply Ok.eq
  unfold Sh.rectolaw2_Tells ofW
  by_cases he : w.err = 0
  · rw [if_pos he, if_pos he, ok_some]; rfl
  · rw [if_neg he, if_neg he, (ofP_some w.parts w.err).1, (ofP_some w.parts w.err).2]
    simp only [ok_jn, ok_bd, ok_if, ok_some]
    refine ⟨fun h => (by cases h), fun _ => Ok.of (erText_ok (by omega) h1 _ hp hl) (Ok.of (words_ok (by omega) h1 hp hl) ⟨fun _ => ⟨fun h => by simp at h, fun _ => ⟨fun _ => trivial, fun hn => ?_⟩⟩, fun h => absurd rfl h⟩)⟩
    obtain ⟨parts, e⟩ := w
    cases parts with
    | nil => exact absurd rfl hn
    | cons p r =>
      simp only [ofP, ok_bd, ok_at, ok_if, ok_some]
      exact ⟨by omega, p, rfl, fun _ => ⟨by omega, p, rfl, by simp⟩, fun h => absurd rfl h⟩
theorem tells_at {word : List UInt8} {a e : Int} (hw : word.length ≤ 1000) (a0 : 0 ≤ a) (a1 : a ≤ 9223372036854775807) (e0 : 1 ≤ e) (e1 : e ≤ 14) : Sh.rectolaw2_Tells (.fault word a (.no e)) ⟨[⟨word, a⟩], e⟩ = some true := by
  have := tells_ok (w := ⟨[⟨word, a⟩], e⟩) (by dsimp only; omega) e1 (fun p hp => by cases List.mem_singleton.1 hp; exact ⟨hw, a0, a1⟩) (by simp)
  unfold ofW at this
  rw [if_neg (by dsimp only; omega)] at this
  exact this
theorem tells_none (l : List Rectoref3Part) : Sh.rectolaw2_Tells .nil ⟨l, 0⟩ = some true := rfl
end Go.S
end

section
namespace Go.S
open Go
theorem lines_ok {s : List UInt8} (hs : s.length ≤ 1000000) : Sh.rectoref17_Lines s = some (spl 10 s) := by
  apply Ok.eq
  unfold Sh.rectoref17_Lines
  rw [ok_lt]
  refine ok_iter (I := fun t => 0 ≤ t.2 ∧ t.2 ≤ s.length ∧ t.1 = spl 10 (s.take t.2.toNat)) (μ := fun t => (s.length - t.2).toNat) ?_ ⟨by simp, by simp, by simp [spl]⟩
  rintro ⟨o, i⟩ ⟨i0, i1, i2⟩
  dsimp only at i0 i1 i2 ⊢
  simp only [ok_jn, ok_if, ok_up, ok_bd, ok_gd, ok_lt, ok_go, ok_some, ok_at]
  refine ⟨fun hi => ?_, fun hi => ?_⟩
  · obtain ⟨z, hz⟩ := at_get (l := s) i0 hi
    obtain ⟨l, y, h1, h2⟩ := spl_snoc 10 z (s.take i.toNat)
    rw [← take_snoc i0 hz] at h2
    rw [← i2] at h1
    have hlen : o.length ≤ s.length + 1 := by
      rw [i2, spl_len]
      have : (s.take i.toNat).count 10 ≤ (s.take i.toNat).length := List.count_le_length
      rw [List.length_take] at this; omega
    subst h1
    have hl1 : (l ++ [y]).length = l.length + 1 := by simp
    refine ⟨i0, z, hz, fun hb => ?_, fun hb => ?_⟩
    · have hz10 : z = 10 := (byte_eq (n := 10) (by decide)).1 hb
      refine ⟨by simp; omega, ⟨by omega, by omega⟩, ⟨by omega, by omega, ?_⟩, by omega⟩
      rw [h2, if_pos hz10]; simp
    · have hz10 : ¬ z = 10 := fun e => hb ((byte_eq (n := 10) (by decide)).2 e)
      have hyl : y.length ≤ s.length := by
        have := spl_part 10 (s.take i.toNat) y (by rw [← i2]; simp)
        rw [List.length_take] at this; omega
      rw [at_last]
      refine ⟨⟨by omega, by omega⟩, ⟨by omega, by omega⟩, by omega, y, rfl, ⟨by omega, by omega⟩, ⟨i0, by omega, by omega⟩, ?_⟩
      rw [mid1 i0 hz]
      refine ⟨by simp; omega, by omega, y, rfl, ⟨by omega, by omega⟩, ⟨by omega, by omega, ?_⟩, by omega⟩
      rw [h2, if_neg hz10, show ((((l ++ [y]).length : Int) - 1).toNat) = l.length by simp]
      simp
  · rw [i2, show i.toNat = s.length by omega, List.take_length]
def wd (s : List UInt8) : List UInt8 := s.takeWhile (· != 32)
def rs (s : List UInt8) : List UInt8 := s.dropWhile (· != 32)
theorem trL_len (s : List UInt8) : (trL s).length ≤ s.length := by
  unfold trL
  exact (List.dropWhile_suffix _).length_le
theorem rs_len (s : List UInt8) : (rs s).length ≤ s.length := by
  unfold rs
  exact (List.dropWhile_suffix _).length_le
theorem trL_head {s : List UInt8} {x : UInt8} {r : List UInt8} (h : trL s = x :: r) : x ≠ 32 := by
  unfold trL at h
  induction s with
  | nil => cases h
  | cons y q ih =>
    rw [List.dropWhile_cons] at h
    by_cases hy : y = 32
    · exact ih (by simpa [hy] using h)
    · simp [hy] at h
      rw [← h.1]; exact hy
theorem wd_nil {s : List UInt8} : wd (trL s) = [] ↔ trL s = [] := by
  constructor
  · intro h
    cases hq : trL s with
    | nil => rfl
    | cons x r =>
      have := trL_head hq
      rw [hq, wd, List.takeWhile_cons] at h
      simp [this] at h
  · intro h; rw [h]; rfl
theorem trL_idem (s : List UInt8) : trL (trL s) = trL s := by
  cases hq : trL s with
  | nil => rfl
  | cons x r =>
    have := trL_head hq
    rw [trL, List.dropWhile_cons]
    simp [this]
theorem word17_ok {s : List UInt8} (hs : s.length ≤ 1000000) : Sh.rectoref17_word s = some (wd (trL s), rs (trL s)) := by
  apply Ok.eq
  unfold Sh.rectoref17_word
  rw [ok_jn]
  refine ok_iter (I := fun i => 0 ≤ i ∧ i ≤ s.length ∧ trL s = trL (s.drop i.toNat)) (μ := fun i => (s.length - i).toNat) ?_ ⟨by omega, by omega, by simp⟩
  rintro i ⟨i0, i1, i2⟩
  have key : trL (s.drop i.toNat) = s.drop i.toNat → Ok (jn (fun (k5_5 : Int) =>
      gd ((0 : Int) ≤ i ∧ i ≤ k5_5 ∧ k5_5 ≤ (s.length : Int)) (
      lt ((s.drop i.toNat).take (k5_5.toNat - i.toNat)) (fun y34_9 =>
      gd ((0 : Int) ≤ k5_5 ∧ k5_5 ≤ (s.length : Int)) (
      lt (s.drop k5_5.toNat) (fun y37_10 =>
      some (y34_9, y37_10)))))) (fun k6 => iter (fun (k5_7 : Int) =>
      if k5_7 < (s.length : Int) then ((at_ s k5_7).bind (fun z26_8 =>
      if (z26_8.toNat : Int) = 32 then (up (k6 k5_7))
      else (gd (I64 (k5_7 + 1)) (
      go (k5_7 + 1)))))
      else (up (k6 k5_7))) i)) (fun a => a = (wd (trL s), rs (trL s))) := fun ht => by
    rw [i2, ht, ok_jn]
    refine ok_iter (I := fun k => i ≤ k ∧ k ≤ s.length ∧ wd (s.drop i.toNat) = (s.drop i.toNat).take (k.toNat - i.toNat) ++ wd (s.drop k.toNat) ∧ rs (s.drop i.toNat) = rs (s.drop k.toNat)) (μ := fun k => (s.length - k).toNat) ?_ ⟨by omega, by omega, by simp, rfl⟩
    rintro k ⟨k0, k1, k2, k3⟩
    simp only [ok_jn, ok_if, ok_up, ok_bd, ok_gd, ok_lt, ok_go, ok_some, ok_at]
    refine ⟨fun hk => ?_, fun hk => ?_⟩
    · obtain ⟨z, hz⟩ := at_get (l := s) (i := k) (by omega) hk
      have hd := drop_cons (by omega) hz
      refine ⟨by omega, z, hz, fun hb => ?_, fun hb => ?_⟩
      · have hz32 : z = 32 := (byte_eq (n := 32) (by decide)).1 hb
        have e1 : wd (s.drop k.toNat) = [] := by rw [hd, wd, List.takeWhile_cons]; simp [hz32]
        have e2 : rs (s.drop k.toNat) = s.drop k.toNat := by rw [hd, rs, List.dropWhile_cons]; simp [hz32]
        refine ⟨⟨i0, k0, k1⟩, ⟨by omega, k1⟩, ?_⟩
        rw [k2, k3, e1, e2, List.append_nil]
      · have hz32 : ¬ z = 32 := fun e => hb ((byte_eq (n := 32) (by decide)).2 e)
        refine ⟨⟨by omega, by omega⟩, ⟨by omega, by omega, ?_, ?_⟩, by omega⟩
        · rw [k2, hd, wd, List.takeWhile_cons]
          simp only [hz32, bne_iff_ne, ne_eq, not_false_eq_true, if_true]
          rw [show (k + 1).toNat - i.toNat = (k.toNat - i.toNat) + 1 by omega, List.take_add_one, List.getElem?_drop, show i.toNat + (k.toNat - i.toNat) = k.toNat by omega, hz]
          simp [wd]
        · rw [k3, hd, rs, List.dropWhile_cons]
          simp [hz32, rs]
    · have e : s.drop k.toNat = [] := List.drop_eq_nil_of_le (by omega)
      refine ⟨⟨i0, k0, k1⟩, ⟨by omega, k1⟩, ?_⟩
      rw [k2, k3, e]; simp [wd, rs]
  simp only [ok_if, ok_up, ok_bd, ok_gd, ok_lt, ok_go, ok_some, ok_at]
  refine ⟨fun hi => ?_, fun hi => key ?_⟩
  · obtain ⟨z, hz⟩ := at_get (l := s) i0 hi
    have hd := drop_cons i0 hz
    refine ⟨i0, z, hz, fun hb => ?_, fun hb => key ?_⟩
    · have hz32 : z = 32 := (byte_eq (n := 32) (by decide)).1 hb
      refine ⟨⟨by omega, by omega⟩, ⟨by omega, by omega, ?_⟩, by omega⟩
      rw [i2, hd, trL, List.dropWhile_cons]; simp [hz32, trL]
    · have hz32 : ¬ z = 32 := fun e => hb ((byte_eq (n := 32) (by decide)).2 e)
      rw [hd, trL, List.dropWhile_cons]; simp [hz32]
  · rw [List.drop_eq_nil_of_le (by omega)]; rfl
theorem blank_ok {s : List UInt8} (hs : s.length ≤ 1000000) : Sh.rectoref17_blank s = some (decide (trL s = [])) := by
  unfold Sh.rectoref17_blank
  rw [word17_ok hs]
  simp only [Option.bind_some]
  congr 1
  exact decide_eq_decide.2 wd_nil
end Go.S
end

section
namespace Go.S
open Go
def toR (x : TodoStep) : Rectoref17Step := ⟨x.verb, x.commit, x.text⟩
theorem clip_step (l : List TodoStep) : Sh.slices_Clip_todo_Step_todo_Step l = some l := by
  unfold Sh.slices_Clip_todo_Step_todo_Step
  simp [gd, lt]
def verbsL : List (List UInt8) := [[112, 105, 99, 107], [114, 101, 119, 111, 114, 100], [101, 100, 105, 116], [115, 113, 117, 97, 115, 104], [102, 105, 120, 117, 112], [100, 114, 111, 112]]
def isV (s : List UInt8) : Bool := decide (s ∈ verbsL)
theorem verb_ok (s : List UInt8) : ∃ b, Sh.todo_verb s = some (isV s, b) := by
  unfold Sh.todo_verb isV verbsL
  simp only [jn]
  by_cases h1 : s = [115, 113, 117, 97, 115, 104]
  · exact ⟨true, by simp [h1]⟩
  by_cases h2 : s = [102, 105, 120, 117, 112]
  · exact ⟨true, by simp [h2]⟩
  by_cases h3 : s = [112, 105, 99, 107]
  · exact ⟨false, by simp [h3]⟩
  by_cases h4 : s = [114, 101, 119, 111, 114, 100]
  · exact ⟨false, by simp [h4]⟩
  by_cases h5 : s = [101, 100, 105, 116]
  · exact ⟨false, by simp [h5]⟩
  by_cases h6 : s = [100, 114, 111, 112]
  · exact ⟨false, by simp [h6]⟩
  · exact ⟨false, by simp [h1, h2, h3, h4, h5, h6]⟩
theorem rverb_ok (s : List UInt8) : Ok (Sh.rectoref17_Verb s) fun v => (v < 0 ↔ isV s = false) := by
  unfold Sh.rectoref17_Verb
  rw [ok_lt]
  refine ok_iter (I := fun i => 0 ≤ i ∧ i ≤ 6 ∧ s ∉ verbsL.take i.toNat) (μ := fun i => (6 - i).toNat) ?_ ⟨by omega, by omega, by simp⟩
  rintro i ⟨i0, i1, i2⟩
  simp only [ok_if, ok_up, ok_bd, ok_gd, ok_go, ok_some, ok_at]
  have hlen : verbsL.length = 6 := rfl
  refine ⟨fun hi => ?_, fun hi => ?_⟩
  · obtain ⟨z, hz⟩ := at_get (l := verbsL) i0 (by rw [hlen]; simpa using hi)
    refine ⟨i0, z, hz, fun e => ?_, fun e => ⟨⟨by omega, by omega⟩, ⟨by omega, by simp at hi; omega, ?_⟩, by simp at hi; omega⟩⟩
    · subst e
      have : isV z = true := decide_eq_true (List.mem_of_getElem? hz)
      rw [this]; simp; omega
    · rw [take_snoc i0 hz]
      intro q
      rcases List.mem_append.1 q with q | q
      · exact i2 q
      · exact e (List.mem_singleton.1 q).symm
  · have : i.toNat = 6 := by simp at hi; omega
    rw [this] at i2
    have : isV s = false := decide_eq_false i2
    rw [this]; simp
def val (l : List UInt8) : Int := l.foldl (fun n b => 10 * n + ((b.toNat : Int) - 48)) 0
def dig (b : UInt8) : Prop := 48 ≤ (b.toNat : Int) ∧ (b.toNat : Int) ≤ 57
instance (b : UInt8) : Decidable (dig b) := inferInstanceAs (Decidable (_ ∧ _))
theorem val_snoc (l : List UInt8) (b : UInt8) : val (l ++ [b]) = 10 * val l + ((b.toNat : Int) - 48) := by simp [val]
def numOk (s : List UInt8) : Prop := 1 ≤ s.length ∧ s.length ≤ 7 ∧ s[0]? ≠ some 48 ∧ (∀ b ∈ s, dig b) ∧ val s ≤ 1000000
instance (s : List UInt8) : Decidable (numOk s) := inferInstanceAs (Decidable (_ ∧ _))
theorem val_bound {l : List UInt8} (h : ∀ b ∈ l, dig b) : 0 ≤ val l ∧ val l < 10 ^ l.length := by
  induction l using snoc_ind with
  | h0 => simp [val]
  | h1 l b ih =>
    have ih := ih fun x hx => h x (List.mem_append_left _ hx)
    have hb := h b (by simp)
    obtain ⟨h1, h2⟩ := hb
    rw [val_snoc, List.length_append, List.length_singleton, Int.pow_succ]
    omega
theorem val_pos {l : List UInt8} (h : ∀ b ∈ l, dig b) (h0 : l[0]? ≠ some 48) (hl : 1 ≤ l.length) : 1 ≤ val l := by
  induction l using snoc_ind with
  | h0 => simp at hl
  | h1 l b ih =>
    have hd := h b (by simp)
    obtain ⟨h1, h2⟩ := hd
    rw [val_snoc]
    cases l with
    | nil =>
      have : b.toNat ≠ 48 := fun e => h0 (by simp; exact UInt8.toNat_inj.1 e)
      simp [val]; omega
    | cons x r =>
      have := ih (fun y hy => h y (List.mem_append_left _ hy)) (by simpa using h0) (by simp)
      omega
theorem wrap_b (z : UInt8) : IntKind.wrap .i64 ((z.toNat : Int) - 48) = (z.toNat : Int) - 48 := by
  have := z.toNat_lt
  exact IntWalk.i64_in _ (by omega)
theorem pow7 {n : Nat} (h : n ≤ 7) : (10 : Int) ^ n ≤ 10000000 := by
  have : n = 0 ∨ n = 1 ∨ n = 2 ∨ n = 3 ∨ n = 4 ∨ n = 5 ∨ n = 6 ∨ n = 7 := by omega
  rcases this with h | h | h | h | h | h | h | h <;> subst h <;> decide
theorem number_ok (s : List UInt8) : Ok (Sh.todo_number s) fun r => (r.2 = true ↔ numOk s) ∧ (numOk s → r.1 = val s) := by
  unfold Sh.todo_number
  simp only [ok_jn, ok_if, ok_gd, ok_lt, ok_bd, ok_some, ok_at]
  have no : ¬ numOk s → (((0 : Int), false).2 = true ↔ numOk s) ∧ (numOk s → ((0 : Int), false).1 = val s) := fun h => ⟨⟨fun q => (by cases q), fun q => absurd q h⟩, fun q => absurd q h⟩
  refine ⟨fun h => ⟨fun _ => no fun q => by have := q.1; simp [h] at this, fun h => absurd trivial h⟩, fun hne => ⟨fun h7 => ⟨fun _ => no fun q => by have := q.2.1; omega, fun h => absurd trivial h⟩, fun h7 => ?_⟩⟩
  have hl : 1 ≤ s.length := List.length_pos_iff.2 hne
  obtain ⟨z, hz⟩ := at_get (l := s) (i := 0) (by omega) (by omega)
  refine ⟨by omega, z, hz, fun h => no fun q => q.2.2.1 ?_, fun h => ⟨by omega, ?_⟩⟩
  · have : z = 48 := (byte_eq (n := 48) (by decide)).1 (by simpa using h)
    rw [← this]; exact hz
  have h48 : s[0]? ≠ some 48 := fun e => h (by
    have e' : s[(0 : Int).toNat]? = some 48 := e
    rw [hz] at e'; cases e'; rfl)
  refine ok_iter (I := fun t => 0 ≤ t.2 ∧ t.2 ≤ s.length ∧ (∀ b ∈ s.take t.2.toNat, dig b) ∧ t.1 = val (s.take t.2.toNat)) (μ := fun t => (s.length - t.2).toNat) ?_ ⟨by simp, by simp, by simp, by simp [val]⟩
  rintro ⟨n, i⟩ ⟨i0, i1, i2, i3⟩
  dsimp only at i0 i1 i2 i3 ⊢
  have hb := val_bound i2
  have hp := pow7 (n := (s.take i.toNat).length) (by rw [List.length_take]; omega)
  simp only [ok_jn, ok_if, ok_up, ok_bd, ok_gd, ok_lt, ok_go, ok_some, ok_at, wrap_b]
  refine ⟨fun hi => ?_, fun hi => ?_⟩
  · obtain ⟨b, hb'⟩ := at_get (l := s) i0 hi
    have hmem : b ∈ s := List.mem_of_getElem? hb'
    refine ⟨i0, b, hb', fun h1 => ⟨fun _ => no fun q => by have := (q.2.2.2.1 b hmem).1; omega, fun h => absurd trivial h⟩, fun h1 => ⟨fun h2 => no fun q => by have := (q.2.2.2.1 b hmem).2; simp at h2; omega, fun h2 => ?_⟩⟩
    simp at h2
    refine ⟨⟨by omega, by omega⟩, ⟨by omega, by omega⟩, ⟨by omega, by omega⟩, ⟨by omega, by omega⟩, ⟨by omega, by omega, fun x hx => ?_, ?_⟩, by omega⟩
    · rw [take_snoc i0 hb'] at hx
      rcases List.mem_append.1 hx with q | q
      · exact i2 x q
      · rw [List.mem_singleton.1 q]; exact ⟨by omega, by omega⟩
    · rw [take_snoc i0 hb', val_snoc, i3]
  · have e : s.take i.toNat = s := by rw [show i.toNat = s.length by omega, List.take_length]
    rw [e] at i2 i3
    refine ⟨?_, fun _ => i3⟩
    simp only [decide_eq_true_eq]
    exact ⟨fun q => ⟨hl, by omega, h48, i2, by omega⟩, fun q => by have := q.2.2.2.2; omega⟩
theorem rnumber_ok (s : List UInt8) : Ok (Sh.rectoref17_Number s) fun r => (numOk s → r = val s) ∧ (r < 1 ↔ ¬ numOk s) := by
  unfold Sh.rectoref17_Number
  simp only [ok_jn, ok_if, ok_bd, ok_some, ok_at]
  have no : ∀ r : Int, r < 1 → ¬ numOk s → (numOk s → r = val s) ∧ (r < 1 ↔ ¬ numOk s) := fun r hr h => ⟨fun q => absurd q h, ⟨fun _ => h, fun _ => hr⟩⟩
  have body : 1 ≤ s.length → s.length ≤ 7 → (1 < s.length → s[0]? ≠ some 48) → Ok (iter (fun ((n3_4, i4_5) : Int × Int) =>
      if i4_5 < (s.length : Int) then (jn (fun (x38_6 : Bool) =>
      if x38_6 = true then (up (some (-1)))
      else (gd (I64 (10 * n3_4)) (
      (at_ s i4_5).bind (fun z43_10 =>
      gd (0 ≤ (z43_10.toNat : Int) - 48 ∧ (z43_10.toNat : Int) - 48 ≤ 255) (
      gd (I64 ((10 * n3_4) + (IntKind.wrap .i64 ((z43_10.toNat : Int) - 48)))) (
      gd (I64 (i4_5 + 1)) (
      go (((10 * n3_4) + (IntKind.wrap .i64 ((z43_10.toNat : Int) - 48))), (i4_5 + 1))))))))) (fun k7 => (at_ s i4_5).bind (fun z31_8 =>
      if (z31_8.toNat : Int) < 48 then (k7 true)
      else ((at_ s i4_5).bind (fun z36_9 =>
      k7 (decide (57 < (z36_9.toNat : Int))))))))
      else (up (if 1000000 < n3_4 then (some (-1))
      else (some n3_4)))) (0, 0)) fun r => (numOk s → r = val s) ∧ (r < 1 ↔ ¬ numOk s) := fun hl h7 h48 => by
    refine ok_iter (I := fun t => 0 ≤ t.2 ∧ t.2 ≤ s.length ∧ (∀ b ∈ s.take t.2.toNat, dig b) ∧ t.1 = val (s.take t.2.toNat)) (μ := fun t => (s.length - t.2).toNat) ?_ ⟨by simp, by simp, by simp, by simp [val]⟩
    rintro ⟨n, i⟩ ⟨i0, i1, i2, i3⟩
    dsimp only at i0 i1 i2 i3 ⊢
    have hb := val_bound i2
    have hp := pow7 (n := (s.take i.toNat).length) (by rw [List.length_take]; omega)
    simp only [ok_jn, ok_if, ok_up, ok_bd, ok_gd, ok_lt, ok_go, ok_some, ok_at, wrap_b]
    refine ⟨fun hi => ?_, fun hi => ?_⟩
    · obtain ⟨b, hb'⟩ := at_get (l := s) i0 hi
      have hmem : b ∈ s := List.mem_of_getElem? hb'
      refine ⟨i0, b, hb', fun h1 => ⟨fun _ => no _ (by omega) fun q => by have := (q.2.2.2.1 b hmem).1; omega, fun h => absurd trivial h⟩, fun h1 => ⟨i0, b, hb', fun h2 => no _ (by omega) fun q => by have := (q.2.2.2.1 b hmem).2; simp at h2; omega, fun h2 => ?_⟩⟩
      simp at h2
      refine ⟨⟨by omega, by omega⟩, i0, b, hb', ⟨by omega, by omega⟩, ⟨by omega, by omega⟩, ⟨by omega, by omega⟩, ⟨by omega, by omega, fun x hx => ?_, ?_⟩, by omega⟩
      · rw [take_snoc i0 hb'] at hx
        rcases List.mem_append.1 hx with q | q
        · exact i2 x q
        · rw [List.mem_singleton.1 q]; exact ⟨by omega, by omega⟩
      · rw [take_snoc i0 hb', val_snoc, i3]
    · have e : s.take i.toNat = s := by rw [show i.toNat = s.length by omega, List.take_length]
      rw [e] at i2 i3
      refine ⟨fun hm => no _ (by omega) fun q => by have := q.2.2.2.2; omega, fun hm => ⟨fun _ => i3, ?_⟩⟩
      by_cases h0 : s[0]? = some 48
      · have h1 : s.length = 1 := by
          rcases Nat.lt_or_ge 1 s.length with q | q
          · exact absurd h0 (h48 q)
          · omega
        have hv : val s = 0 := by
          match s, h1, h0 with
          | [x], _, h0 => simp at h0; subst h0; rfl
        rw [i3, hv]
        exact ⟨fun _ q => q.2.2.1 h0, fun _ => by omega⟩
      · have := val_pos i2 h0 hl
        exact ⟨fun q => by omega, fun q => absurd ⟨hl, h7, h0, i2, by omega⟩ q⟩
  refine ⟨fun h => ⟨fun _ => no _ (by omega) fun q => by have := q.1; omega, fun h => absurd trivial h⟩, fun h1 => ⟨fun h => ⟨fun _ => no _ (by omega) fun q => by have := q.2.1; omega, fun h => absurd trivial h⟩, fun h7 => ⟨fun h2 => ?_, fun h2 => ⟨fun h => by simp at h, fun _ => body (by omega) (by omega) fun h => by omega⟩⟩⟩⟩
  obtain ⟨z, hz⟩ := at_get (l := s) (i := 0) (by omega) (by omega)
  refine ⟨by omega, z, hz, fun h => no _ (by omega) fun q => q.2.2.1 ?_, fun h => body (by omega) (by omega) fun _ e => h ?_⟩
  · have : z = 48 := (byte_eq (n := 48) (by decide)).1 (by simpa using h)
    rw [← this]; exact hz
  · have e' : s[(0 : Int).toNat]? = some 48 := e
    rw [hz] at e'; cases e'; rfl
def rewordW : List UInt8 := [114, 101, 119, 111, 114, 100]
theorem isV_re : isV [114, 101, 119, 111, 114, 100] = true := by decide
def stepS (x : List UInt8) : TodoStep × Int :=
  if trL (rs x) = [] then (⟨[], 0, []⟩, 2)
  else if isV (wd x) = false then (⟨[], 0, []⟩, 5)
  else if ¬ numOk (wd (trL (rs x))) then (⟨[], 0, []⟩, 1)
  else if wd x = rewordW then
    if (rs (trL (rs x))).length < 2 then (⟨[], 0, []⟩, 2)
    else if 257 < (rs (trL (rs x))).length then (⟨[], 0, []⟩, 4)
    else (⟨wd x, val (wd (trL (rs x))), (rs (trL (rs x))).drop 1⟩, 0)
  else if trL (rs (trL (rs x))) = [] then (⟨wd x, val (wd (trL (rs x))), []⟩, 0)
  else (⟨[], 0, []⟩, 2)
theorem wd_no : ∀ {s : List UInt8}, 32 ∉ s → wd s = s ∧ rs s = []
  | [], _ => ⟨rfl, rfl⟩
  | x :: r, h => by
    have hx : x ≠ 32 := fun e => h (by simp [e])
    obtain ⟨h1, h2⟩ := wd_no (s := r) fun e => h (List.mem_cons_of_mem _ e)
    unfold wd rs at *
    rw [List.takeWhile_cons, List.dropWhile_cons]
    simp [hx, h1, h2]
theorem wd_at : ∀ {a : List UInt8} (b : List UInt8), 32 ∉ a → wd (a ++ 32 :: b) = a ∧ rs (a ++ 32 :: b) = 32 :: b
  | [], b, _ => by simp [wd, rs]
  | x :: r, b, h => by
    have hx : x ≠ 32 := fun e => h (by simp [e])
    obtain ⟨h1, h2⟩ := wd_at (a := r) b fun e => h (List.mem_cons_of_mem _ e)
    unfold wd rs at *
    rw [List.cons_append, List.takeWhile_cons, List.dropWhile_cons]
    simp [hx, h1, h2]
theorem cut_ok {s : List UInt8} (hs : s.length ≤ 1000000) : Sh.todo_cut s = some (wd s, trL (rs s)) := by
  apply Ok.eq
  unfold Sh.todo_cut
  rw [sindex_ok, Option.bind_some]
  by_cases h : (32 : UInt8) ∈ s
  · obtain ⟨a, b, e, ha⟩ := split_mem h
    subst e
    obtain ⟨h1, h2⟩ := wd_at b ha
    have hl : (a ++ 32 :: b).length = a.length + b.length + 1 := by simp; omega
    rw [ix_at b ha, h1, h2]
    simp only [ok_if, ok_gd, ok_lt, ok_bd, ok_some]
    refine ⟨fun h => by omega, fun _ => ⟨⟨by omega, by omega⟩, ⟨by omega, by omega⟩, Ok.of (trimL_ok _) ?_⟩⟩
    simp
  · obtain ⟨h1, h2⟩ := wd_no h
    rw [ix_no h, h1, h2, if_pos (by decide), ok_some]
    rfl
theorem scut_ok {s : List UInt8} (hs : s.length ≤ 1000000) : Sh.strings_Cut s [32] = some (wd s, (rs s).drop 1, decide (rs s ≠ [])) := by
  apply Ok.eq
  unfold Sh.strings_Cut Sh.internal_stringslite_Cut
  rw [index_ok, Option.bind_some]
  by_cases h : (32 : UInt8) ∈ s
  · obtain ⟨a, b, e, ha⟩ := split_mem h
    subst e
    obtain ⟨h1, h2⟩ := wd_at b ha
    have hl : (a ++ 32 :: b).length = a.length + b.length + 1 := by simp; omega
    rw [ix_at b ha, h1, h2]
    simp only [ok_if, ok_gd, ok_lt, ok_bd, ok_some]
    refine ⟨fun _ => ⟨⟨by omega, by omega⟩, ⟨by simp; omega, by simp; omega⟩, ⟨by simp; omega, by simp; omega⟩, ?_⟩, fun h => by omega⟩
    simp only [List.length_cons, List.length_nil]
    rw [show ((a.length : Int) + ((0 + 1 : Nat) : Int)).toNat = a.length + 1 by omega]
    simp
  · obtain ⟨h1, h2⟩ := wd_no h
    rw [ix_no h, h1, h2, if_neg (by decide), ok_bd, ok_some, ok_some]
    rfl
theorem trL_drop1 (s : List UInt8) : trL ((rs s).drop 1) = trL (rs s) := by
  by_cases h : (32 : UInt8) ∈ s
  · obtain ⟨a, b, e, ha⟩ := split_mem h
    subst e
    rw [(wd_at b ha).2]; simp [trL]
  · rw [(wd_no h).2]; rfl
theorem line_ok {x : List UInt8} (hs : x.length ≤ 1000000) : Sh.todo_line x = some (stepS x) := by
  apply Ok.eq
  unfold Sh.todo_line
  have l1 := rs_len x
  have l2 := trL_len (rs x)
  have l3 := rs_len (trL (rs x))
  rw [cut_ok hs, Option.bind_some, ok_bd]
  refine (trim_ok (by dsimp only; omega)).mono fun t ht => ?_
  dsimp only at ht ⊢
  rw [trL_idem] at ht
  obtain ⟨vb, hv⟩ := verb_ok (wd x)
  simp only [ok_if, ok_bd, ok_some, hv, scut_ok (s := trL (rs x)) (by omega)]
  refine ⟨fun h => ?_, fun h => ⟨fun h1 => ?_, fun h1 => ?_⟩⟩
  · simp [stepS, ht.1 h]
  · have : isV (wd x) = false := by simpa using h1
    simp [stepS, mt ht.2 h, this]
  · have hV : ¬ isV (wd x) = false := by simpa using h1
    have hT := mt ht.2 h
    refine (number_ok _).mono fun n hn => ⟨fun h2 => ?_, fun h2 => ?_⟩
    · have : ¬ numOk (wd (trL (rs x))) := fun q => by have := hn.1.2 q; simp [this] at h2
      simp [stepS, hT, hV, this]
    · have hN : numOk (wd (trL (rs x))) := hn.1.1 (by simpa using h2)
      have hval := hn.2 hN
      simp only [ok_jn, ok_if, ok_bd, ok_some, decide_eq_true_eq]
      refine ⟨fun hr => ?_, fun hr => ?_⟩
      · refine ⟨fun he => ⟨fun _ => ?_, fun q => absurd trivial q⟩, fun he => ⟨fun hd => ?_, fun hd => ⟨fun hm => ?_, fun hm => ?_⟩⟩⟩
        · have : rs (trL (rs x)) = [] := by simpa using he
          simp [stepS, hT, hV, isV_re, hN, rewordW, hr, this]
        · have hd' : (rs (trL (rs x))).length < 2 := by have := congrArg List.length hd; simp at this; omega
          simp [stepS, hT, hV, isV_re, hN, rewordW, hr, hd']
        · have hd' : ¬ (rs (trL (rs x))).length < 2 := fun q => hd (List.drop_eq_nil_of_le (by omega))
          have hm' : 257 < (rs (trL (rs x))).length := by simp at hm; omega
          simp [stepS, hT, hV, isV_re, hN, rewordW, hr, hd', hm']
        · have hd' : ¬ (rs (trL (rs x))).length < 2 := fun q => hd (List.drop_eq_nil_of_le (by omega))
          have hm' : ¬ 257 < (rs (trL (rs x))).length := by simp at hm; omega
          simp [stepS, hT, hV, isV_re, hN, rewordW, hr, hd', hm', hval]
      · refine (trim_ok (by simp; omega)).mono fun u hu => ?_
        rw [trL_drop1] at hu
        refine ⟨fun q => ?_, fun q => ?_⟩
        · have := hu.1 q
          simp [stepS, hT, hV, isV_re, hN, rewordW, hr, this, hval]
        · have := mt hu.2 q
          simp [stepS, hT, hV, isV_re, hN, rewordW, hr, this]
theorem rstep_ok {y : List UInt8} (hs : y.length ≤ 1000000) : Sh.rectoref17_step y = some (toR (stepS (trL y)).1, (stepS (trL y)).2) := by
  apply Ok.eq
  unfold Sh.rectoref17_step
  have l0 := trL_len y
  have l1 := rs_len (trL y)
  have l2 := trL_len (rs (trL y))
  have l3 := rs_len (trL (rs (trL y)))
  rw [word17_ok hs, Option.bind_some]
  dsimp only
  rw [word17_ok (by omega), Option.bind_some]
  generalize hx : trL y = x at *
  simp only [ok_if, ok_bd, ok_some, wd_nil]
  refine ⟨fun h => ?_, fun hT => (rverb_ok _).mono fun v hv => ⟨fun h1 => ?_, fun h1 => ?_⟩⟩
  · simp [stepS, h, toR]
  · simp [stepS, hT, hv.1 h1, toR]
  · have hV := mt hv.2 h1
    refine (rnumber_ok _).mono fun n hn => ⟨fun h2 => ?_, fun h2 => ?_⟩
    · simp [stepS, hT, hV, hn.2.1 h2, toR]
    · have hN : numOk (wd (trL (rs x))) := Classical.not_not.1 fun q => h2 (hn.2.2 q)
      have hval := hn.1 hN
      refine ⟨fun hr => ⟨fun hd => ?_, fun hd => ?_⟩, fun hr => ?_⟩
      · have hd' : (rs (trL (rs x))).length < 2 := by omega
        simp [stepS, hT, hV, isV_re, hN, rewordW, hr, hd', toR]
      · have hd' : ¬ (rs (trL (rs x))).length < 2 := by omega
        simp only [ok_gd, ok_if, ok_lt, ok_some]
        refine ⟨⟨by omega, by omega⟩, fun hm => ?_, fun hm => ⟨⟨by omega, by omega⟩, ?_⟩⟩
        · have hm' : 257 < (rs (trL (rs x))).length := by omega
          simp [stepS, hT, hV, isV_re, hN, rewordW, hr, hd', hm', toR]
        · have hm' : ¬ 257 < (rs (trL (rs x))).length := by omega
          simp [stepS, hT, hV, isV_re, hN, rewordW, hr, hd', hm', hval, toR]
      · rw [blank_ok (by omega)]
        simp only [ok_some, ok_if]
        refine ⟨fun q => ?_, fun q => ?_⟩
        · have : ¬ trL (rs (trL (rs x))) = [] := by simpa using q
          simp [stepS, hT, hV, isV_re, hN, rewordW, hr, this, toR]
        · have : trL (rs (trL (rs x))) = [] := by simpa using q
          simp [stepS, hT, hV, isV_re, hN, rewordW, hr, this, hval, toR]
def lineW : List UInt8 := [108, 105, 110, 101]
def pS : Int → List TodoStep → List (List UInt8) → List TodoStep × Option (Int × Int)
  | _, out, [] => (out, none)
  | i, out, y :: r =>
    if trL y = [] ∨ (trL y)[0]? = some 35 then pS (i + 1) out r
    else if (stepS (trL y)).2 ≠ 0 then ([], some (i, (stepS (trL y)).2))
    else if out.length = 32 then ([], some (32, 4))
    else pS (i + 1) (out ++ [(stepS (trL y)).1]) r
def errS : Option (Int × Int) → Err
  | none => .nil
  | some (i, e) => .fault lineW i (.no e)
def wrongS : Option (Int × Int) → Rectoref3WrongP
  | none => ⟨[], 0⟩
  | some (i, e) => ⟨[⟨lineW, i⟩], e⟩
def parseS (s : List UInt8) : List TodoStep × Option (Int × Int) := pS 0 [] (spl 10 s)
theorem parse_ok {s : List UInt8} (hs : s.length ≤ 1000000) : Sh.todo_Parse s = some ((parseS s).1, errS (parseS s).2) := by
  apply Ok.eq
  unfold Sh.todo_Parse parseS
  rw [split_ok 10 (by omega), Option.bind_some]
  have hpart := spl_part 10 s
  have hlen := spl_len 10 s
  have hcnt : s.count 10 ≤ s.length := List.count_le_length
  generalize spl 10 s = L at *
  refine ok_iter (I := fun t => 0 ≤ t.2 ∧ t.2 ≤ L.length ∧ pS t.2 t.1 (L.drop t.2.toNat) = pS 0 [] L ∧ t.1.length ≤ t.2) (μ := fun t => (L.length - t.2).toNat) ?_ ⟨by simp, by simp, by simp, by simp⟩
  rintro ⟨o, i⟩ ⟨i0, i1, i2, i3⟩
  dsimp only at i0 i1 i2 i3 ⊢
  simp only [ok_if, ok_up, ok_bd, ok_gd, ok_lt, ok_go, ok_some, ok_at]
  refine ⟨fun hi => ?_, fun hi => ?_⟩
  · obtain ⟨y, hy⟩ := at_get (l := L) i0 hi
    have hyl := hpart y (List.mem_of_getElem? hy)
    have hd := drop_cons i0 hy
    have htl := trL_len y
    rw [hd, pS] at i2
    refine ⟨i0, y, hy, Ok.of (trimL_ok y) ⟨fun h => ?_, fun h => ?_⟩⟩
    · rw [if_pos (.inl h)] at i2
      exact ⟨⟨by omega, by omega⟩, ⟨by omega, by omega, i2, by omega⟩, by omega⟩
    · obtain ⟨b, hb⟩ := at_get (l := trL y) (i := 0) (by omega) (by have := List.length_pos_iff.2 h; omega)
      have hb' : (trL y)[0]? = some b := hb
      refine ⟨by omega, b, hb, fun h35 => ?_, fun h35 => ?_⟩
      · have : b = 35 := (byte_eq (n := 35) (by decide)).1 h35
        rw [if_pos (.inr (by rw [hb', this]))] at i2
        exact ⟨⟨by omega, by omega⟩, ⟨by omega, by omega, i2, by omega⟩, by omega⟩
      · have hn : ¬ (trL y = [] ∨ (trL y)[0]? = some 35) := fun q => q.elim h fun e => h35 (by rw [hb'] at e; cases e; rfl)
        rw [if_neg hn] at i2
        refine Ok.of (line_ok (by omega)) ⟨fun he => ⟨fun h32 => ?_, fun h32 => ?_⟩, fun he => ?_⟩
        · rw [if_neg (by simpa using he), if_pos (by omega)] at i2
          rw [← i2]; rfl
        · rw [if_neg (by simpa using he), if_neg (by omega)] at i2
          refine ⟨by simp; omega, ⟨by omega, by omega⟩, ⟨by omega, by omega, i2, by simp; omega⟩, by omega⟩
        · rw [if_pos he] at i2
          rw [← i2]; rfl
  · rw [List.drop_eq_nil_of_le (by omega), pS] at i2
    rw [clip_step, ok_some, ← i2]; rfl
theorem rparse_ok {s : List UInt8} (hs : s.length ≤ 1000000) : Sh.rectoref17_Parse s = some ((parseS s).1.map toR, wrongS (parseS s).2) := by
  apply Ok.eq
  unfold Sh.rectoref17_Parse parseS
  rw [lines_ok hs, Option.bind_some]
  have hpart := spl_part 10 s
  have hlen := spl_len 10 s
  have hcnt : s.count 10 ≤ s.length := List.count_le_length
  generalize spl 10 s = L at *
  refine ok_iter (I := fun t => 0 ≤ t.2 ∧ t.2 ≤ L.length ∧ ∃ o : List TodoStep, t.1 = o.map toR ∧ pS t.2 o (L.drop t.2.toNat) = pS 0 [] L ∧ o.length ≤ t.2) (μ := fun t => (L.length - t.2).toNat) ?_ ⟨by simp, by simp, [], by simp, by simp, by simp⟩
  rintro ⟨o', i⟩ ⟨i0, i1, o, ho, i2, i3⟩
  dsimp only at i0 i1 i2 i3 ho ⊢
  subst ho
  simp only [ok_jn, ok_if, ok_up, ok_bd, ok_gd, ok_lt, ok_go, ok_some, ok_at]
  refine ⟨fun hi => ?_, fun hi => ?_⟩
  · obtain ⟨y, hy⟩ := at_get (l := L) i0 hi
    have hyl := hpart y (List.mem_of_getElem? hy)
    have hd := drop_cons i0 hy
    have htl := trL_len y
    rw [hd, pS] at i2
    refine ⟨i0, y, hy, Ok.of (word17_ok (by omega)) ⟨fun h => ?_, fun h => ?_⟩⟩
    · rw [if_pos (.inl (wd_nil.1 h))] at i2
      exact ⟨⟨by omega, by omega⟩, ⟨by omega, by omega, o, rfl, i2, by omega⟩, by omega⟩
    · have h' : trL y ≠ [] := fun e => h (wd_nil.2 e)
      obtain ⟨b, r, hq⟩ := List.exists_cons_of_ne_nil h'
      have hb32 := trL_head hq
      have hw : wd (trL y) = b :: wd r := by rw [hq, wd, List.takeWhile_cons]; simp [hb32, wd]
      rw [hw]
      refine ⟨by omega, b, rfl, fun h35 => ?_, fun h35 => ?_⟩
      · have : b = 35 := (byte_eq (n := 35) (by decide)).1 h35
        rw [if_pos (.inr (by rw [hq, this]; rfl))] at i2
        exact ⟨⟨by omega, by omega⟩, ⟨by omega, by omega, o, rfl, i2, by omega⟩, by omega⟩
      · have hn : ¬ (trL y = [] ∨ (trL y)[0]? = some 35) := fun q => q.elim h' fun e => h35 (by rw [hq] at e; simp at e; rw [e]; rfl)
        rw [if_neg hn] at i2
        refine ⟨i0, y, hy, Ok.of (rstep_ok (by omega)) ⟨fun he => ⟨fun h32 => ?_, fun h32 => ?_⟩, fun he => ?_⟩⟩
        · simp only [List.length_map] at h32
          rw [if_neg (by simpa using he), if_pos (by omega)] at i2
          rw [← i2]; unfold Sh.rectoref3_At; simp [ok_lt, ok_some, wrongS, lineW]
        · simp only [List.length_map] at h32
          rw [if_neg (by simpa using he), if_neg (by omega)] at i2
          refine ⟨by simp; omega, ⟨by omega, by omega⟩, ⟨by omega, by omega, _, ?_, i2, by simp; omega⟩, by omega⟩
          simp [toR]
        · rw [if_pos he] at i2
          rw [← i2]; unfold Sh.rectoref3_At; simp [ok_lt, ok_some, wrongS, lineW]
  · rw [List.drop_eq_nil_of_le (by omega), pS] at i2
    rw [← i2]; rfl
theorem of21_ok {l : List TodoStep} (h : l.length ≤ 1000) : Sh.rectolaw21_Of l = some (l.map toR) := by
  apply Ok.eq
  unfold Sh.rectolaw21_Of
  refine ok_iter (I := fun t => 0 ≤ t.2 ∧ t.2 ≤ l.length ∧ t.1 = (l.take t.2.toNat).map toR) (μ := fun t => (l.length - t.2).toNat) ?_ ⟨by simp, by simp, by simp⟩
  rintro ⟨o, i⟩ ⟨i0, i1, i2⟩
  dsimp only at i0 i1 i2 ⊢
  simp only [ok_if, ok_up, ok_bd, ok_gd, ok_lt, ok_go, ok_some, ok_at]
  refine ⟨fun hi => ?_, fun hi => ?_⟩
  · obtain ⟨z, hz⟩ := at_get (l := l) i0 hi
    have hlen : o.length = i.toNat := by rw [i2, List.length_map, List.length_take]; omega
    refine ⟨i0, z, hz, i0, z, hz, i0, z, hz, by simp; omega, ⟨by omega, by omega⟩, ⟨by omega, by omega, ?_⟩, by omega⟩
    rw [take_snoc i0 hz, i2]; simp [toR]
  · rw [i2, show i.toNat = l.length by omega, List.take_length]
def tailT (x : TodoStep) : List UInt8 := if x.verb = rewordW then 32 :: x.text else []
def lineT (x : TodoStep) : List UInt8 := x.verb ++ 32 :: (itoaS x.commit ++ tailT x)
def textS : List TodoStep → List UInt8
  | [] => []
  | x :: r => lineT x ++ 10 :: textS r
theorem textS_snoc (x : TodoStep) : ∀ l, textS (l ++ [x]) = textS l ++ (lineT x ++ [10])
  | [] => by simp [textS]
  | y :: l => by simp [textS, textS_snoc x l]
def Sml (x : TodoStep) : Prop := x.verb.length ≤ 1000 ∧ x.text.length ≤ 1000 ∧ I64 x.commit
theorem lineT_len {x : TodoStep} (h : Sml x) : (lineT x).length ≤ 2100 := by
  obtain ⟨h1, h2, _⟩ := h
  have := itoaS_len x.commit
  unfold lineT tailT
  split <;> simp <;> omega
theorem textS_len : ∀ {l : List TodoStep}, (∀ x ∈ l, Sml x) → (textS l).length ≤ 2101 * l.length
  | [], _ => by simp [textS]
  | x :: r, h => by
    have := textS_len fun y hy => h y (List.mem_cons_of_mem _ hy)
    have := lineT_len (h x (List.mem_cons_self ..))
    simp [textS]; omega
theorem text_ok {l : List TodoStep} (hs : ∀ x ∈ l, Sml x) (hl : l.length ≤ 1000) : Sh.todo_Text l = some (textS l) := by
  apply Ok.eq
  unfold Sh.todo_Text
  refine ok_iter (I := fun t => 0 ≤ t.1 ∧ t.1 ≤ l.length ∧ t.2 = textS (l.take t.1.toNat)) (μ := fun t => (l.length - t.1).toNat) ?_ ⟨by simp, by simp, by simp [textS]⟩
  rintro ⟨i, a⟩ ⟨i0, i1, i2⟩
  dsimp only at i0 i1 i2 ⊢
  have hlen := textS_len (l := l.take i.toNat) fun x hx => hs x (List.mem_of_mem_take hx)
  rw [← i2, List.length_take] at hlen
  simp only [ok_if, ok_up, ok_bd, ok_gd, ok_lt, ok_go, ok_some, ok_at]
  refine ⟨fun hi => ?_, fun hi => ?_⟩
  · obtain ⟨x, hx⟩ := at_get (l := l) i0 hi
    obtain ⟨s1, s2, s3⟩ := hs x (List.mem_of_getElem? hx)
    have := itoaS_len x.commit
    refine ⟨i0, x, hx, by simp; omega, s3, by simp; omega, by simp; omega, fun hr => ?_, fun hr => ?_⟩
    · refine ⟨by simp; omega, by simp; omega, by simp; omega, ⟨by omega, by omega⟩, ⟨by omega, by omega, ?_⟩, by omega⟩
      rw [take_snoc i0 hx, textS_snoc, i2]; simp [lineT, tailT, rewordW, hr]
    · refine ⟨by simp; omega, ⟨by omega, by omega⟩, ⟨by omega, by omega, ?_⟩, by omega⟩
      rw [take_snoc i0 hx, textS_snoc, i2]; simp [lineT, tailT, rewordW, hr]
  · rw [i2, show i.toNat = l.length by omega, List.take_length]
theorem rtext_ok {l : List TodoStep} (hs : ∀ x ∈ l, Sml x) (hl : l.length ≤ 1000) : Sh.rectoref17_Text (l.map toR) = some (textS l) := by
  apply Ok.eq
  unfold Sh.rectoref17_Text
  refine ok_iter (I := fun t => 0 ≤ t.2 ∧ t.2 ≤ l.length ∧ t.1 = textS (l.take t.2.toNat)) (μ := fun t => (l.length - t.2).toNat) ?_ ⟨by simp, by simp, by simp [textS]⟩
  rintro ⟨a, i⟩ ⟨i0, i1, i2⟩
  dsimp only at i0 i1 i2 ⊢
  have hlen := textS_len (l := l.take i.toNat) fun x hx => hs x (List.mem_of_mem_take hx)
  rw [← i2, List.length_take] at hlen
  simp only [ok_jn, ok_if, ok_up, ok_bd, ok_gd, ok_lt, ok_go, ok_some, ok_at, List.length_map]
  refine ⟨fun hi => ?_, fun hi => ?_⟩
  · obtain ⟨x, hx⟩ := at_get (l := l) i0 hi
    obtain ⟨s1, s2, s3⟩ := hs x (List.mem_of_getElem? hx)
    have := itoaS_len x.commit
    have hx' : (l.map toR)[i.toNat]? = some (toR x) := by rw [List.getElem?_map, hx]; rfl
    have t1 : (toR x).verb = x.verb := rfl
    have t2 : (toR x).text = x.text := rfl
    have t3 : (itoaS (toR x).commit).length ≤ 21 := itoaS_len _
    have t4 : (toR x).commit = x.commit := rfl
    refine ⟨i0, _, hx', by rw [t1]; omega, by rw [t1]; simp; omega, i0, _, hx', Ok.of (decimal_all s3) ⟨by rw [t1]; simp; omega, i0, _, hx', fun hr => ?_, fun hr => ?_⟩⟩
    · rw [t1] at hr
      refine ⟨by rw [t1]; simp; omega, i0, _, hx', by rw [t1, t2]; simp; omega, by rw [t1, t2]; simp; omega, ⟨by omega, by omega⟩, ⟨by omega, by omega, ?_⟩, by omega⟩
      rw [take_snoc i0 hx, textS_snoc, i2, t1, t2, t4]; simp [lineT, tailT, rewordW, hr]
    · rw [t1] at hr
      refine ⟨by rw [t1]; simp; omega, ⟨by omega, by omega⟩, ⟨by omega, by omega, ?_⟩, by omega⟩
      rw [take_snoc i0 hx, textS_snoc, i2, t1, t4]; simp [lineT, tailT, rewordW, hr]
  · rw [i2, show i.toNat = l.length by omega, List.take_length]
theorem d48 {k : Nat} (h : k < 10) : ((UInt8.ofNat (48 + k)).toNat : Int) = 48 + k := by
  simp [UInt8.toNat_ofNat']; omega
theorem dec_facts (u : Nat) (h : 1 ≤ u) : (∀ b ∈ Lib.decDigits u, dig b) ∧ val (Lib.decDigits u) = u ∧ (Lib.decDigits u)[0]? ≠ some 48 ∧ 1 ≤ (Lib.decDigits u).length := by
  induction u using Nat.strongRecOn with
  | _ u ih =>
    rw [Lib.decDigits]
    by_cases h10 : u < 10
    · rw [dif_pos h10]
      have := d48 h10
      refine ⟨fun b hb => ?_, ?_, ?_, by simp⟩
      · rw [List.mem_singleton.1 hb]; exact ⟨by omega, by omega⟩
      · simp only [val, List.foldl_cons, List.foldl_nil]; omega
      · intro e
        simp only [List.getElem?_cons_zero, Option.some.injEq] at e
        rw [e] at this
        have e2 : ((48 : UInt8).toNat : Int) = 48 := rfl
        omega
    · rw [dif_neg h10]
      obtain ⟨a1, a2, a3, a4⟩ := ih (u / 10) (by omega) (by omega)
      have := d48 (k := u % 10) (by omega)
      refine ⟨fun b hb => ?_, ?_, ?_, by simp⟩
      · rcases List.mem_append.1 hb with q | q
        · exact a1 b q
        · rw [List.mem_singleton.1 q]; exact ⟨by omega, by omega⟩
      · rw [val_snoc, a2]; omega
      · rw [List.getElem?_append_left (by omega)]; exact a3
theorem itoa_facts {c : Int} (h1 : 1 ≤ c) (h2 : c ≤ 1000000) : numOk (itoaS c) ∧ val (itoaS c) = c ∧ (∀ b ∈ itoaS c, dig b) := by
  have e : itoaS c = Lib.decDigits c.toNat := by rw [itoaS_eq ⟨by omega, by omega⟩, Lib.itoa, if_neg (by omega)]
  obtain ⟨a1, a2, a3, a4⟩ := dec_facts c.toNat (by omega)
  have hl : (Lib.decDigits c.toNat).length ≤ 7 := by
    rw [← decF_eq 6 c.toNat (by omega)]; exact decF_len 7 _
  rw [e]
  refine ⟨⟨a4, hl, a3, a1, by omega⟩, by omega, a1⟩
theorem verb_facts : ∀ v ∈ verbsL, (10 : UInt8) ∉ v ∧ (32 : UInt8) ∉ v ∧ v ≠ [] ∧ v[0]? ≠ some 35 := by decide
def Good21 (x : TodoStep) : Prop := isV x.verb = true ∧ 1 ≤ x.commit ∧ x.commit ≤ 1000000 ∧ (x.verb = rewordW → x.text ≠ [] ∧ x.text.length ≤ 256 ∧ (10 : UInt8) ∉ x.text)
def norm (x : TodoStep) : TodoStep := ⟨x.verb, x.commit, if x.verb = rewordW then x.text else []⟩
theorem dig_not {l : List UInt8} (h : ∀ b ∈ l, dig b) : (10 : UInt8) ∉ l ∧ (32 : UInt8) ∉ l := ⟨fun q => by have := (h _ q).1; simp at this, fun q => by have := (h _ q).1; simp at this⟩
theorem line_facts {x : TodoStep} (h : Good21 x) : (10 : UInt8) ∉ lineT x ∧ trL (lineT x) = lineT x ∧ lineT x ≠ [] ∧ (lineT x)[0]? ≠ some 35 ∧ stepS (lineT x) = (norm x, 0) := by
  obtain ⟨hv, h1, h2, hr⟩ := h
  have hvm : x.verb ∈ verbsL := of_decide_eq_true hv
  obtain ⟨v1, v2, v3, v4⟩ := verb_facts _ hvm
  obtain ⟨n1, n2, n3⟩ := itoa_facts h1 h2
  obtain ⟨d1, d2⟩ := dig_not n3
  obtain ⟨b, r, hb⟩ := List.exists_cons_of_ne_nil v3
  have hb32 : b ≠ 32 := fun e => v2 (by rw [hb, e]; simp)
  have hwd := wd_at (a := x.verb) (itoaS x.commit ++ tailT x) v2
  have hit : trL (32 :: (itoaS x.commit ++ tailT x)) = itoaS x.commit ++ tailT x := by
    have hne : itoaS x.commit ≠ [] := fun e => by have := n1.1; rw [e] at this; simp at this
    obtain ⟨c, q, hc⟩ := List.exists_cons_of_ne_nil hne
    have hc32 : c ≠ 32 := fun e => d2 (by rw [hc, e]; simp)
    rw [hc]
    simp [trL, hc32]
  have hwd2 : wd (itoaS x.commit ++ tailT x) = itoaS x.commit ∧ rs (itoaS x.commit ++ tailT x) = tailT x := by
    unfold tailT
    split
    · exact wd_at _ d2
    · rw [List.append_nil]; exact wd_no d2
  refine ⟨?_, ?_, ?_, ?_, ?_⟩
  · unfold lineT tailT
    intro q
    rcases List.mem_append.1 q with q | q
    · exact v1 q
    · rcases List.mem_cons.1 q with q | q
      · exact absurd q (by decide)
      · rcases List.mem_append.1 q with q | q
        · exact d1 q
        · split at q
          · next hw =>
            rcases List.mem_cons.1 q with q | q
            · exact absurd q (by decide)
            · exact (hr hw).2.2 q
          · cases q
  · unfold lineT
    rw [hb]
    simp [trL, hb32]
  · unfold lineT; simp
  · unfold lineT
    rw [hb]
    rw [hb] at v4
    simpa using v4
  · unfold stepS lineT
    rw [hwd.1, hwd.2, hit, hwd2.1, hwd2.2, n2]
    have hne : ¬ (itoaS x.commit ++ tailT x = []) := fun e => by
      have := n1.1
      have e2 := congrArg List.length e
      rw [List.length_append, List.length_nil] at e2
      omega
    rw [if_neg hne, if_neg (by rw [hv]; simp), if_neg (by simpa using n1)]
    unfold norm tailT
    by_cases hw : x.verb = rewordW
    · obtain ⟨t1, t2, t3⟩ := hr hw
      have := List.length_pos_iff.2 t1
      simp only [hw, if_true, List.length_cons]
      rw [if_neg (by omega), if_neg (by omega)]
      simp
    · simp only [hw, if_false]
      rw [if_pos (by rfl)]
theorem spl_text : ∀ {l : List TodoStep}, (∀ x ∈ l, Good21 x) → spl 10 (textS l) = l.map lineT ++ [[]]
  | [], _ => rfl
  | x :: r, h => by
    rw [textS, spl_at _ (line_facts (h x (List.mem_cons_self ..))).1, spl_text fun y hy => h y (List.mem_cons_of_mem _ hy)]
    rfl
theorem pS_text : ∀ {l : List TodoStep} (i : Int) (out : List TodoStep), (∀ x ∈ l, Good21 x) → out.length + l.length ≤ 32 → pS i out (l.map lineT ++ [[]]) = (out ++ l.map norm, none)
  | [], i, out, _, _ => by simp [pS, trL]
  | x :: r, i, out, h, hl => by
    obtain ⟨_, f2, f3, f4, f5⟩ := line_facts (h x (List.mem_cons_self ..))
    simp only [List.length_cons] at hl
    rw [List.map_cons, List.cons_append, pS, f2, if_neg (fun q => q.elim f3 f4), f5]
    rw [if_neg (by simp), if_neg (by omega), pS_text (i + 1) _ (fun y hy => h y (List.mem_cons_of_mem _ hy)) (by simp; omega)]
    simp
theorem back_ok {l : List TodoStep} (h : ∀ x ∈ l, Good21 x) (hl : l.length ≤ 32) : parseS (textS l) = (l.map norm, none) := by
  unfold parseS
  rw [spl_text h, pS_text 0 [] h (by simpa using hl)]
  simp
end Go.S
end

section
namespace Go.S
open Go
def textE (s : List UInt8) (must : Bool) : Int := if 256 < s.length then 4 else if must = true ∧ s = [] then 1 else if (10 : UInt8) ∈ s then 2 else 0
theorem line17_ok {s : List UInt8} (hs : s.length ≤ 1000000) : Sh.rectoref17_line s = some (decide ((10 : UInt8) ∈ s)) := by
  unfold Sh.rectoref17_line
  rw [lines_ok hs, Option.bind_some, spl_len]
  refine congrArg some (decide_eq_decide.2 ?_)
  have := List.count_pos_iff (a := (10 : UInt8)) (l := s)
  rw [← this]
  omega
def stepE (x : TodoStep) : Int := if isV x.verb = false then 5 else if x.commit < 1 ∨ 1000000 < x.commit then 1 else if x.verb = rewordW then textE x.text true else 0
def firstE : List TodoStep → Int
  | [] => 0
  | x :: r => if stepE x = 0 then firstE r else stepE x
def stepsE (l : List TodoStep) : Int := if 32 < l.length then 4 else firstE l
theorem drop_at {α : Type} {x : List α} {i : Int} {z : α} (i0 : 0 ≤ i) (hz : x[i.toNat]? = some z) : x.drop i.toNat = z :: x.drop (i + 1).toNat := by
  rw [show (i + 1).toNat = i.toNat + 1 by omega]
  obtain ⟨h, rfl⟩ := List.getElem?_eq_some_iff.1 hz
  exact List.drop_eq_getElem_cons h
theorem rsteps17_ok (c : CmdCmdP) (hl : ∀ x ∈ c.todo, x.text.length ≤ 1000000) : Sh.rectoref17_steps (toC c) = some (if c.verb = rebaseW then stepsE c.todo else 0) := by
  apply Ok.eq
  unfold Sh.rectoref17_steps stepsE rebaseW
  simp only [ok_if, ok_some, toC, List.length_map]
  refine ⟨fun hv => ⟨fun h => ?_, fun h => ?_⟩, fun hv => (by rw [if_neg hv])⟩
  · rw [if_pos hv, if_pos (by omega)]
  · rw [if_pos hv, if_neg (by omega)]
    refine ok_iter (I := fun i => 0 ≤ i ∧ i ≤ c.todo.length ∧ firstE (c.todo.drop i.toNat) = firstE c.todo) (μ := fun i => (c.todo.length - i).toNat) ?_ ⟨by omega, by omega, by simp⟩
    rintro i ⟨i0, i1, i2⟩
    simp only [ok_if, ok_up, ok_some]
    refine ⟨fun hi => ?_, fun hi => ?_⟩
    · obtain ⟨z, hz⟩ := at_get (l := c.todo) i0 hi
      have hzm : (c.todo.map fun x : TodoStep => (⟨x.verb, x.commit, x.text⟩ : Rectoref17Step))[i.toNat]? = some ⟨z.verb, z.commit, z.text⟩ := by rw [List.getElem?_map, hz]; rfl
      rw [drop_at i0 hz] at i2
      have hzl := hl z (List.mem_of_getElem? hz)
      refine ok_jnP (fun _ => stepE z = 0) ?_ ?_
      · intro _ h0
        simp only [ok_gd, ok_go]
        refine ⟨⟨by omega, by omega⟩, ⟨by omega, by omega, ?_⟩, by omega⟩
        rw [← i2, firstE, if_pos h0]
      · intro K hK
        have hne : stepE z ≠ 0 → firstE c.todo = stepE z := fun h => by rw [← i2, firstE, if_neg h]
        simp only [ok_bd, ok_at]
        refine ⟨i0, _, hzm, (rverb_ok z.verb).mono fun v hv' => ?_⟩
        simp only [ok_if, ok_up, ok_some]
        refine ⟨fun h => ?_, fun h => ?_⟩
        · have hE : stepE z = 5 := by unfold stepE; rw [if_pos (hv'.1 h)]
          rw [hne (by rw [hE]; decide), hE]
        · have hV : ¬ isV z.verb = false := fun q => h (hv'.2 q)
          refine ok_jnP (fun b => b = decide (z.commit < 1 ∨ 1000000 < z.commit)) ?_ ?_
          · intro b hb
            simp only [ok_if, ok_up, ok_some, ok_bd]
            refine ⟨fun q => ?_, fun q => ⟨fun hr => ?_, fun hr => ?_⟩⟩
            · have hE : stepE z = 1 := by unfold stepE; rw [if_neg hV, if_pos (by rw [hb] at q; exact of_decide_eq_true q)]
              rw [hne (by rw [hE]; decide), hE]
            · have hC : ¬ (z.commit < 1 ∨ 1000000 < z.commit) := fun w => q (by rw [hb]; exact decide_eq_true w)
              have hE : stepE z = textE z.text true := by unfold stepE rewordW; rw [if_neg hV, if_neg hC, if_pos hr]
              unfold textE at hE
              refine ⟨fun h4 => ?_, fun h4 => ⟨fun h1 => ?_, fun h1 => ?_⟩⟩
              · rw [if_pos (by omega)] at hE
                rw [hne (by rw [hE]; decide), hE]
              · rw [if_neg (by omega), if_pos ⟨rfl, h1⟩] at hE
                rw [hne (by rw [hE]; decide), hE]
              · rw [if_neg (by omega), if_neg (fun w => h1 w.2)] at hE
                rw [line17_ok hzl, ok_some]
                refine ⟨fun h2 => ?_, fun h2 => hK _ ?_⟩
                · rw [if_pos (of_decide_eq_true h2)] at hE
                  rw [hne (by rw [hE]; decide), hE]
                · rw [if_neg (fun w => h2 (decide_eq_true w))] at hE
                  exact hE
            · have hC : ¬ (z.commit < 1 ∨ 1000000 < z.commit) := fun w => q (by rw [hb]; exact decide_eq_true w)
              refine hK _ ?_
              unfold stepE rewordW
              rw [if_neg hV, if_neg hC, if_neg hr]
          · intro K2 hK2
            simp only [ok_if]
            exact ⟨fun a => hK2 _ (by simp [a]), fun a => hK2 _ (by simp [a])⟩
    · rw [List.drop_eq_nil_of_le (by omega)] at i2
      exact i2
theorem ctext_ok (s : List UInt8) (must : Bool) : Sh.cmd_text s must = some (textE s must) := by
  have hc : Sh.strings_Contains s [10] = some (decide ((10 : UInt8) ∈ s)) := by
    unfold Sh.strings_Contains
    rw [sindex_ok, Option.bind_some]
    refine congrArg some (decide_eq_decide.2 ?_)
    by_cases h : (10 : UInt8) ∈ s
    · obtain ⟨a, b, e, ha⟩ := split_mem h
      refine ⟨fun _ => h, fun _ => ?_⟩
      rw [e, ix_at b ha]; omega
    · rw [ix_no h]; exact ⟨fun q => absurd q (by omega), fun q => absurd q h⟩
  unfold Sh.cmd_text textE
  simp only [jn, hc, Option.bind_some]
  by_cases a : 256 < s.length
  · rw [if_pos (by omega), if_pos a]
  rw [if_neg (by omega), if_neg a]
  cases must with
  | false => by_cases h : (10 : UInt8) ∈ s <;> simp [h]
  | true => by_cases h0 : s = [] <;> by_cases h : (10 : UInt8) ∈ s <;> simp [h0, h]
theorem csteps_ok (l : List TodoStep) : Sh.cmd_steps l = some (stepsE l) := by
  apply Ok.eq
  unfold Sh.cmd_steps stepsE
  simp only [ok_if, ok_some]
  refine ⟨fun h => (by rw [if_pos (by omega)]), fun h => ?_⟩
  rw [if_neg (by omega)]
  refine ok_iter (I := fun i => 0 ≤ i ∧ i ≤ l.length ∧ firstE (l.drop i.toNat) = firstE l) (μ := fun i => (l.length - i).toNat) ?_ ⟨by omega, by omega, by simp⟩
  rintro i ⟨i0, i1, i2⟩
  simp only [ok_if, ok_up, ok_some]
  refine ⟨fun hi => ?_, fun hi => ?_⟩
  · obtain ⟨z, hz⟩ := at_get (l := l) i0 hi
    rw [drop_at i0 hz] at i2
    have hne : stepE z ≠ 0 → firstE l = stepE z := fun h => by rw [← i2, firstE, if_neg h]
    have hgo : stepE z = 0 → firstE (l.drop (i + 1).toNat) = firstE l := fun h => by rw [← i2, firstE, if_pos h]
    simp only [ok_bd, ok_at]
    refine ⟨i0, z, hz, ?_⟩
    refine ok_jnP (fun b => b = isV z.verb) ?_ ?_
    · intro b hb
      simp only [ok_if, ok_up, ok_some]
      refine ⟨fun q => ?_, fun q => ?_⟩
      · have hV : ¬ isV z.verb = false := by rw [← hb, q]; simp
        refine ok_jnP (fun b => b = decide (z.commit < 1 ∨ 1000000 < z.commit)) ?_ ?_
        · intro b2 hb2
          simp only [ok_if, ok_up, ok_some, ok_bd]
          refine ⟨fun q2 => ?_, fun q2 => ⟨fun hr => ?_, fun hr => ?_⟩⟩
          · have hE : stepE z = 1 := by unfold stepE; rw [if_neg hV, if_pos (by rw [hb2] at q2; exact of_decide_eq_true q2)]
            rw [hne (by rw [hE]; decide), hE]
          · have hC : ¬ (z.commit < 1 ∨ 1000000 < z.commit) := fun w => q2 (by rw [hb2]; exact decide_eq_true w)
            have hE : stepE z = textE z.text true := by unfold stepE rewordW; rw [if_neg hV, if_neg hC, if_pos hr]
            rw [ctext_ok, ok_some]
            simp only [ok_gd, ok_go]
            refine ⟨fun h0 => ⟨⟨by omega, by omega⟩, ⟨by omega, by omega, hgo (by rw [hE]; exact h0)⟩, by omega⟩, fun h0 => ?_⟩
            rw [hne (by rw [hE]; exact h0), hE]
          · have hC : ¬ (z.commit < 1 ∨ 1000000 < z.commit) := fun w => q2 (by rw [hb2]; exact decide_eq_true w)
            simp only [ok_gd, ok_go]
            refine ⟨⟨by omega, by omega⟩, ⟨by omega, by omega, hgo ?_⟩, by omega⟩
            unfold stepE rewordW
            rw [if_neg hV, if_neg hC, if_neg hr]
        · intro K2 hK2
          simp only [ok_if]
          exact ⟨fun a => hK2 _ (by simp [a]), fun a => hK2 _ (by simp [a])⟩
      · have hE : stepE z = 5 := by unfold stepE; rw [if_pos (by rw [← hb]; simpa using q)]
        rw [hne (by rw [hE]; decide), hE]
    · intro K hK
      simp only [ok_if]
      refine ⟨fun a => hK _ ?_, fun a => ⟨fun b => hK _ ?_, fun b => ⟨fun d => hK _ ?_, fun d => ⟨fun e => hK _ ?_, fun e => ⟨fun f => hK _ ?_, fun f => hK _ ?_⟩⟩⟩⟩⟩
      all_goals (unfold isV verbsL; rw [decide_eq_decide]; simp [*])
  · rw [List.drop_eq_nil_of_le (by omega)] at i2
    exact i2
end Go.S
end

section
namespace Go.S
open Go
def verbsC : List (List UInt8) := [addW, rmW, commitW, branchW, deleteW, switchW, resetW, mergeW, pickW, revertW, stashW, popW, applyW, shelveW, rebaseW, [99, 111, 110, 116, 105, 110, 117, 101], [115, 107, 105, 112], [97, 98, 111, 114, 116], [117, 110, 100, 111], [114, 101, 100, 111]]
theorem cverbs_ok : Sh.cmd_Verbs = some verbsC := by decide +kernel
theorem rverbs17_ok : Sh.rectoref17_Verbs = some verbsC := by decide +kernel
def ixS (v : List UInt8) : List (List UInt8) → Int → Int
  | [], _ => -1
  | x :: r, i => if x = v then i else ixS v r (i + 1)
def placeS (v : List UInt8) : Int := ixS v verbsC 0
theorem v20 : verbsC.length = 20 := rfl
theorem cplace_ok (v : List UInt8) : Sh.cmd_place v = some (placeS v) := by
  unfold Sh.cmd_place
  rw [cverbs_ok, Option.bind_some]
  have : Sh.slices_Index_string_string verbsC v = some (placeS v) := by
    apply Ok.eq
    unfold Sh.slices_Index_string_string placeS
    refine ok_iter (I := fun i => 0 ≤ i ∧ i ≤ verbsC.length ∧ ixS v (verbsC.drop i.toNat) i = ixS v verbsC 0) (μ := fun i => (verbsC.length - i).toNat) ?_ ⟨by omega, by decide, by simp⟩
    rintro i ⟨i0, i1, i2⟩
    simp only [ok_if, ok_up, ok_some]
    refine ⟨fun hi => ?_, fun hi => ?_⟩
    · obtain ⟨z, hz⟩ := at_get (l := verbsC) i0 hi
      rw [drop_at i0 hz, ixS] at i2
      have := v20
      simp only [ok_bd, ok_at, ok_if, ok_up, ok_some, ok_gd, ok_go]
      refine ⟨i0, z, hz, fun h => ?_, fun h => ⟨⟨by omega, by omega⟩, ⟨by omega, by omega, ?_⟩, by omega⟩⟩
      · rw [if_pos (by first | exact h | exact h.symm)] at i2; exact i2
      · rw [if_neg (by first | exact h | exact fun q => h q.symm)] at i2; exact i2
    · rw [List.drop_eq_nil_of_le (by omega)] at i2; exact i2
  rw [this]; rfl
theorem rplace_ok (v : List UInt8) : Sh.rectoref17_Place v = some (placeS v) := by
  apply Ok.eq
  unfold Sh.rectoref17_Place placeS
  rw [rverbs17_ok, Option.bind_some]
  refine ok_iter (I := fun i => 0 ≤ i ∧ i ≤ verbsC.length ∧ ixS v (verbsC.drop i.toNat) i = ixS v verbsC 0) (μ := fun i => (verbsC.length - i).toNat) ?_ ⟨by omega, by decide, by simp⟩
  rintro i ⟨i0, i1, i2⟩
  simp only [ok_if, ok_up, ok_some]
  refine ⟨fun hi => ?_, fun hi => ?_⟩
  · obtain ⟨z, hz⟩ := at_get (l := verbsC) i0 hi
    rw [drop_at i0 hz, ixS] at i2
    have := v20
    simp only [ok_bd, ok_at, ok_if, ok_up, ok_some, ok_gd, ok_go]
    refine ⟨i0, z, hz, fun h => ?_, fun h => ⟨⟨by omega, by omega⟩, ⟨by omega, by omega, ?_⟩, by omega⟩⟩
    · rw [if_pos h] at i2; exact i2
    · rw [if_neg h] at i2; exact i2
  · rw [List.drop_eq_nil_of_le (by omega)] at i2; exact i2
def moreS (c : CmdCmdP) : Int := if c.verb = commitW ∨ c.verb = stashW then textE c.text (decide (c.verb = commitW)) else if c.verb = rebaseW then stepsE c.todo else 0
theorem cmore_ok (c : CmdCmdP) : Sh.cmd_more c = some (moreS c) := by
  unfold Sh.cmd_more moreS commitW stashW rebaseW
  simp only [jn, ctext_ok, csteps_ok, Option.bind_some]
  by_cases a1 : c.verb = [99, 111, 109, 109, 105, 116]
  · simp [a1]
  by_cases a2 : c.verb = [115, 116, 97, 115, 104]
  · simp [a2]
  by_cases a3 : c.verb = [114, 101, 98, 97, 115, 101]
  · simp [a3]
  simp [a1, a2, a3]
theorem rwords17_ok {c : CmdCmdP} (ht : c.text.length ≤ 1000000) : Sh.rectoref17_words (toC c) = some (if c.verb = commitW ∨ c.verb = stashW then textE c.text (decide (c.verb = commitW)) else 0) := by
  have hi : (256 < (c.text.length : Int)) ↔ 256 < c.text.length := by omega
  unfold Sh.rectoref17_words commitW stashW
  simp only [jn, toC, line17_ok ht, Option.bind_some, hi]
  by_cases a1 : c.verb = [99, 111, 109, 109, 105, 116]
  · simp only [a1, textE]
    by_cases b : 256 < c.text.length
    · simp [b]
    · by_cases b2 : c.text = []
      · simp [b2]
      · by_cases b3 : (10 : UInt8) ∈ c.text <;> simp [b, b2, b3]
  by_cases a2 : c.verb = [115, 116, 97, 115, 104]
  · simp only [a2, textE]
    by_cases b : 256 < c.text.length
    · simp [b]
    · by_cases b3 : (10 : UInt8) ∈ c.text <;> simp [b, b3]
  simp [a1, a2]
def fz : List Int → Int
  | [] => 0
  | x :: r => if x = 0 then fz r else x
def chkE (c : CmdCmdP) : Int := fz [nameS c, numS c, moreS c]
def cmdW : List UInt8 := [99, 109, 100]
theorem ccheck_ok {c : CmdCmdP} (hn : c.name.length ≤ 1000000000) : Sh.cmd_Check c = some (if placeS c.verb < 0 then .fault cmdW (placeS c.verb) (.no 5) else if chkE c = 0 then .nil else .fault cmdW (placeS c.verb) (.no (chkE c))) := by
  apply Ok.eq
  have hf : ∀ e : Err, Sh.cmd_fault c e = some (.fault cmdW (placeS c.verb) e) := fun e => by unfold Sh.cmd_fault; rw [cplace_ok, Option.bind_some]; rfl
  unfold Sh.cmd_Check
  rw [cplace_ok, Option.bind_some]
  simp only [hf, Option.bind_some, cname_ok hn, cnumber_ok, cmore_ok, ok_if, ok_some, ok_lt]
  refine ⟨fun h => (by rw [if_pos h]), fun h => ?_⟩
  rw [if_neg h]
  unfold chkE
  obtain ⟨l, hl, hb⟩ : ∃ l, [nameS c, numS c, moreS c] = l ∧ l.length ≤ 1000 := ⟨_, rfl, by simp⟩
  rw [hl]
  · refine ok_iter (I := fun i => 0 ≤ i ∧ i ≤ l.length ∧ fz (l.drop i.toNat) = fz l) (μ := fun i => (l.length - i).toNat) ?_ ⟨by omega, by omega, by simp⟩
    rintro i ⟨i0, i1, i2⟩
    simp only [ok_if, ok_up, ok_some]
    refine ⟨fun hi => ?_, fun hi => ?_⟩
    · obtain ⟨z, hz⟩ := at_get (l := l) i0 hi
      rw [drop_at i0 hz, fz] at i2
      simp only [ok_bd, ok_at, ok_if, ok_up, ok_some, ok_gd, ok_go]
      refine ⟨i0, z, hz, fun h => ⟨⟨by omega, by omega⟩, ⟨by omega, by omega, ?_⟩, by omega⟩, fun h => ?_⟩
      · rw [if_pos h] at i2; exact i2
      · rw [if_neg h] at i2
        rw [← i2, if_neg h]
    · rw [List.drop_eq_nil_of_le (by omega)] at i2
      rw [← i2]; rfl
theorem at_cmd (k e : Int) : Sh.rectoref3_At [99, 109, 100] k e = some ⟨[⟨cmdW, k⟩], e⟩ := rfl
theorem rcheck17_ok {c : CmdCmdP} (h : I64 c.n) (ht : c.text.length ≤ 1000000) (hl : ∀ x ∈ c.todo, x.text.length ≤ 1000000) : Sh.rectoref17_CheckCmd (toC c) = some (if placeS c.verb < 0 then ⟨[⟨cmdW, placeS c.verb⟩], 5⟩ else if chkE c = 0 then ⟨[], 0⟩ else ⟨[⟨cmdW, placeS c.verb⟩], chkE c⟩) := by
  apply Ok.eq
  unfold Sh.rectoref17_CheckCmd
  rw [show (⟨(toC c).verb, (toC c).name, (toC c).n, (toC c).text, (toC c).force, (toC c).todo⟩ : Rectoref17CmdP) = toC c from rfl]
  rw [show (toC c).verb = c.verb from rfl, rplace_ok, Option.bind_some, rname17_ok, rnumber17_ok c h, rwords17_ok ht, rsteps17_ok c hl]
  simp only [at_cmd, Option.bind_some, ok_if, ok_some, ok_lt]
  refine ⟨fun h => (by rw [if_pos h]), fun h => ?_⟩
  rw [if_neg h]
  have hk : chkE c = fz [nameS c, numS c, if c.verb = commitW ∨ c.verb = stashW then textE c.text (decide (c.verb = commitW)) else 0, if c.verb = rebaseW then stepsE c.todo else 0] := by
    unfold chkE moreS
    simp only [fz]
    by_cases a : c.verb = commitW ∨ c.verb = stashW
    · have b : ¬ c.verb = rebaseW := by rcases a with a | a <;> rw [a] <;> decide
      simp [a, b]
    · simp [a]
  rw [hk]
  obtain ⟨l, hl, hb⟩ : ∃ l, [nameS c, numS c, if c.verb = commitW ∨ c.verb = stashW then textE c.text (decide (c.verb = commitW)) else 0, if c.verb = rebaseW then stepsE c.todo else 0] = l ∧ l.length = 4 := ⟨_, rfl, by simp⟩
  rw [hl]
  refine ok_iter (I := fun i => 0 ≤ i ∧ i ≤ l.length ∧ fz (l.drop i.toNat) = fz l) (μ := fun i => (l.length - i).toNat) ?_ ⟨by omega, by omega, by simp⟩
  rintro i ⟨i0, i1, i2⟩
  simp only [ok_if, ok_up, ok_some]
  refine ⟨fun hi => ?_, fun hi => ?_⟩
  · obtain ⟨z, hz⟩ := at_get (l := l) i0 (by omega)
    rw [drop_at i0 hz, fz] at i2
    simp only [ok_bd, ok_at, ok_if, ok_up, ok_some, ok_gd, ok_go]
    refine ⟨i0, z, hz, fun h => ⟨⟨by omega, by omega⟩, ⟨by omega, by omega, ?_⟩, by omega⟩, fun h => ⟨i0, z, hz, ?_⟩⟩
    · rw [if_pos h] at i2; exact i2
    · rw [if_neg h] at i2
      rw [← i2, if_neg h]
  · rw [List.drop_eq_nil_of_le (by omega)] at i2
    rw [← i2]; rfl
end Go.S
end

section
namespace Go.S
open Go
def namedS (c : CmdCmdP) : Bool := decide (c.verb = addW ∨ c.verb = branchW ∨ c.verb = deleteW ∨ c.verb = mergeW ∨ c.verb = rmW ∨ c.verb = resetW ∨ c.verb = switchW) && !decide (c.name = [])
def numberedS (c : CmdCmdP) : Bool := decide (c.verb = pickW ∨ c.verb = revertW ∨ c.verb = popW ∨ c.verb = applyW ∨ c.verb = shelveW ∨ c.verb = rebaseW ∨ c.verb = resetW ∨ (c.verb = switchW ∧ c.name = []))
def forcedS (c : CmdCmdP) : Bool := c.force && decide (c.verb = rmW ∨ c.verb = switchW)
def toldS (c : CmdCmdP) : Bool := decide (c.verb = commitW ∨ c.verb = stashW) && !decide (c.text = [])
theorem has_ok (c : CmdCmdP) : Sh.cmd_has c = some (namedS c, numberedS c, forcedS c, toldS c) := by
  unfold Sh.cmd_has namedS numberedS forcedS toldS addW branchW deleteW mergeW rmW resetW switchW pickW revertW popW applyW shelveW rebaseW commitW stashW
  simp only [jn]
  by_cases a1 : c.verb = [115, 119, 105, 116, 99, 104]
  · simp [a1]
  by_cases a2 : c.verb = [114, 109]
  · simp [a2]
  by_cases a3 : c.verb = [97, 100, 100]
  · simp [a3]
  by_cases a4 : c.verb = [98, 114, 97, 110, 99, 104]
  · simp [a4]
  by_cases a5 : c.verb = [100, 101, 108, 101, 116, 101]
  · simp [a5]
  by_cases a6 : c.verb = [109, 101, 114, 103, 101]
  · simp [a6]
  by_cases a7 : c.verb = [114, 101, 115, 101, 116]
  · simp [a7]
  by_cases a8 : c.verb = [112, 105, 99, 107]
  · simp [a8]
  by_cases a9 : c.verb = [114, 101, 118, 101, 114, 116]
  · simp [a9]
  by_cases b1 : c.verb = [112, 111, 112]
  · simp [b1]
  by_cases b2 : c.verb = [97, 112, 112, 108, 121]
  · simp [b2]
  by_cases b3 : c.verb = [115, 104, 101, 108, 118, 101]
  · simp [b3]
  by_cases b4 : c.verb = [114, 101, 98, 97, 115, 101]
  · simp [b4]
  by_cases b5 : c.verb = [99, 111, 109, 109, 105, 116]
  · simp [b5]
  by_cases b6 : c.verb = [115, 116, 97, 115, 104]
  · simp [b6]
  simp [a1, a2, a3, a4, a5, a6, a7, a8, a9, b1, b2, b3, b4, b5, b6]
def tailS (c : CmdCmdP) : List UInt8 := (if namedS c = true then 32 :: c.name else []) ++ ((if numberedS c = true then 32 :: itoaS c.n else []) ++ ((if forcedS c = true then [32, 45, 102] else []) ++ ((if toldS c = true then 32 :: c.text else []) ++ (if c.verb = rebaseW then 10 :: textS c.todo else []))))
def sayS (c : CmdCmdP) : List UInt8 := c.verb ++ tailS c
structure Sm (c : CmdCmdP) : Prop where
  v : c.verb.length ≤ 1000
  n : c.name.length ≤ 1000
  t : c.text.length ≤ 1000
  i : I64 c.n
  l : c.todo.length ≤ 1000
  s : ∀ x ∈ c.todo, Sml x
theorem ctxt_ok {c : CmdCmdP} (h : Sm c) : Sh.cmd_Text c = some (sayS c) := by
  obtain ⟨h1, h2, h3, h4, h5, h6⟩ := h
  have hi := itoaS_len c.n
  have hT := textS_len h6
  unfold Sh.cmd_Text sayS tailS
  rw [has_ok, Option.bind_some]
  simp only [jn, text_ok h6 h5, Option.bind_some]
  cases namedS c <;> cases numberedS c <;> cases forcedS c <;> cases toldS c <;> by_cases hr : c.verb = [114, 101, 98, 97, 115, 101] <;> simp [hr, rebaseW, gd, lt, h4, joinS, Lib.join] <;> omega
end Go.S
end

section
namespace Go.S
open Go
set_option maxHeartbeats 8000000 in
theorem rsay_ok {c : CmdCmdP} (h : Sm c) : Sh.rectoref17_Say (toC c) = some (sayS c) := by
  obtain ⟨h1, h2, h3, h4, h5, h6⟩ := h
  have hi := itoaS_len c.n
  have hT := textS_len h6
  have hR : Sh.rectoref17_Text (c.todo.map fun x => (⟨x.verb, x.commit, x.text⟩ : Rectoref17Step)) = some (textS c.todo) := rtext_ok h6 h5
  unfold Sh.rectoref17_Say sayS tailS
  simp only [jn, toC, hR, decimal_all h4, Option.bind_some]
  unfold namedS numberedS forcedS toldS addW branchW deleteW mergeW rmW resetW switchW pickW revertW popW applyW shelveW rebaseW commitW stashW
  by_cases a1 : c.verb = [115, 119, 105, 116, 99, 104]
  · by_cases n : c.name = [] <;> cases c.force <;> simp [a1, n, gd, lt] <;> omega
  by_cases a2 : c.verb = [114, 109]
  · by_cases n : c.name = [] <;> cases c.force <;> simp [a2, n, gd, lt] <;> omega
  by_cases a3 : c.verb = [97, 100, 100]
  · by_cases n : c.name = [] <;> cases c.force <;> simp [a3, n, gd, lt] <;> omega
  by_cases a4 : c.verb = [98, 114, 97, 110, 99, 104]
  · by_cases n : c.name = [] <;> cases c.force <;> simp [a4, n, gd, lt] <;> omega
  by_cases a5 : c.verb = [100, 101, 108, 101, 116, 101]
  · by_cases n : c.name = [] <;> cases c.force <;> simp [a5, n, gd, lt] <;> omega
  by_cases a6 : c.verb = [109, 101, 114, 103, 101]
  · by_cases n : c.name = [] <;> cases c.force <;> simp [a6, n, gd, lt] <;> omega
  by_cases a7 : c.verb = [114, 101, 115, 101, 116]
  · by_cases n : c.name = [] <;> cases c.force <;> simp [a7, n, gd, lt] <;> omega
  by_cases a8 : c.verb = [112, 105, 99, 107]
  · cases c.force <;> simp [a8, gd, lt] <;> omega
  by_cases a9 : c.verb = [114, 101, 118, 101, 114, 116]
  · cases c.force <;> simp [a9, gd, lt] <;> omega
  by_cases b1 : c.verb = [112, 111, 112]
  · cases c.force <;> simp [b1, gd, lt] <;> omega
  by_cases b2 : c.verb = [97, 112, 112, 108, 121]
  · cases c.force <;> simp [b2, gd, lt] <;> omega
  by_cases b3 : c.verb = [115, 104, 101, 108, 118, 101]
  · cases c.force <;> simp [b3, gd, lt] <;> omega
  by_cases b4 : c.verb = [114, 101, 98, 97, 115, 101]
  · cases c.force <;> simp [b4, gd, lt] <;> omega
  by_cases b5 : c.verb = [99, 111, 109, 109, 105, 116]
  · by_cases n : c.text = [] <;> cases c.force <;> simp [b5, n, gd, lt] <;> omega
  by_cases b6 : c.verb = [115, 116, 97, 115, 104]
  · by_cases n : c.text = [] <;> cases c.force <;> simp [b6, n, gd, lt] <;> omega
  cases c.force <;> simp [a1, a2, a3, a4, a5, a6, a7, a8, a9, b1, b2, b3, b4, b5, b6]
end Go.S
end

section
namespace Go.S
open Go
theorem tells_m1 : Sh.rectolaw2_Tells (.fault cmdW (-1) (.no 5)) ⟨[⟨cmdW, -1⟩], 5⟩ = some true := by decide +kernel
theorem ixS_rng (v : List UInt8) : ∀ (l : List (List UInt8)) (i : Int), 0 ≤ i → ixS v l i = -1 ∨ (i ≤ ixS v l i ∧ ixS v l i < i + l.length)
  | [], i, _ => .inl rfl
  | x :: r, i, h => by
    unfold ixS
    split
    · exact .inr ⟨by omega, by simp only [List.length_cons]; omega⟩
    · rcases ixS_rng v r (i + 1) (by omega) with q | q
      · exact .inl q
      · exact .inr ⟨by omega, by simp only [List.length_cons]; omega⟩
theorem place_rng (v : List UInt8) : placeS v = -1 ∨ (0 ≤ placeS v ∧ placeS v < 20) := by
  have := ixS_rng v verbsC 0 (by omega)
  rw [v20] at this
  unfold placeS
  omega
theorem textE_rng (s : List UInt8) (m : Bool) : 0 ≤ textE s m ∧ textE s m ≤ 5 := by
  unfold textE
  repeat' split
  all_goals omega
theorem stepE_rng (x : TodoStep) : 0 ≤ stepE x ∧ stepE x ≤ 5 := by
  unfold stepE
  split
  · omega
  · split
    · omega
    · split
      · exact textE_rng _ _
      · omega
theorem firstE_rng : ∀ l, 0 ≤ firstE l ∧ firstE l ≤ 5
  | [] => by simp [firstE]
  | x :: r => by
    unfold firstE
    split
    · exact firstE_rng r
    · exact stepE_rng x
theorem moreS_rng (c : CmdCmdP) : 0 ≤ moreS c ∧ moreS c ≤ 5 := by
  unfold moreS stepsE
  split
  · exact textE_rng _ _
  · split
    · split
      · omega
      · exact firstE_rng _
    · omega
theorem checkP_rng (p : List UInt8) : 0 ≤ checkP p ∧ checkP p ≤ 5 := by
  unfold checkP
  repeat' split
  all_goals omega
theorem nameS_rng (c : CmdCmdP) : 0 ≤ nameS c ∧ nameS c ≤ 5 := by
  have := checkP_rng c.name
  unfold nameS
  repeat' split
  all_goals omega
theorem numS_rng (c : CmdCmdP) : 0 ≤ numS c ∧ numS c ≤ 5 := by
  unfold numS
  repeat' split
  all_goals omega
theorem chkE_rng (c : CmdCmdP) : 0 ≤ chkE c ∧ chkE c ≤ 5 := by
  have h1 := nameS_rng c
  have h2 := numS_rng c
  have h3 := moreS_rng c
  simp only [chkE, fz]
  repeat' split
  all_goals omega
theorem tellsC (c : CmdCmdP) : Sh.rectolaw2_Tells (if placeS c.verb < 0 then .fault cmdW (placeS c.verb) (.no 5) else if chkE c = 0 then .nil else .fault cmdW (placeS c.verb) (.no (chkE c))) (if placeS c.verb < 0 then ⟨[⟨cmdW, placeS c.verb⟩], 5⟩ else if chkE c = 0 then ⟨[], 0⟩ else ⟨[⟨cmdW, placeS c.verb⟩], chkE c⟩) = some true := by
  have hp := place_rng c.verb
  have hc := chkE_rng c
  by_cases h : placeS c.verb < 0
  · rw [if_pos h, if_pos h, show placeS c.verb = -1 by omega]
    exact tells_m1
  · rw [if_neg h, if_neg h]
    by_cases h0 : chkE c = 0
    · rw [if_pos h0, if_pos h0]; exact tells_none _
    · rw [if_neg h0, if_neg h0]
      exact tells_at (by decide) (by omega) (by omega) (by omega) (by omega)
theorem known22b : Sh.rectolaw22_known = some true := by decide +kernel
end Go.S
end

section
namespace Go.S
open Go
theorem count_num {s : List UInt8} (h : numOk s) : Sh.cmd_count s = some (val s, true) := by
  obtain ⟨h1, h2, h3, h4, h5⟩ := h
  apply Ok.eq
  unfold Sh.cmd_count
  refine ok_jnP (fun x => x = false) ?_ ?_
  · intro x hx
    simp only [ok_if, ok_some, ok_gd, ok_lt]
    refine ⟨fun q => absurd q (by rw [hx]; simp), fun _ => ⟨by omega, ?_⟩⟩
    refine ok_iter (I := fun t => 0 ≤ t.2 ∧ t.2 ≤ s.length ∧ t.1 = val (s.take t.2.toNat)) (μ := fun t => (s.length - t.2).toNat) ?_ ⟨by simp, by simp, by simp [val]⟩
    rintro ⟨n, i⟩ ⟨i0, i1, i3⟩
    dsimp only at i0 i1 i3 ⊢
    have i2 : ∀ b ∈ s.take i.toNat, dig b := fun b hb => h4 b (List.mem_of_mem_take hb)
    have hb := val_bound i2
    have hp := pow7 (n := (s.take i.toNat).length) (by rw [List.length_take]; omega)
    simp only [ok_if, ok_up, ok_some]
    refine ⟨fun hi => ?_, fun hi => ?_⟩
    · obtain ⟨b, hb'⟩ := at_get (l := s) i0 hi
      have hd := h4 b (List.mem_of_getElem? hb')
      unfold dig at hd
      rw [ok_bd, ok_at]
      refine ⟨i0, b, hb', ?_⟩
      refine ok_jnP (fun x => x = false) ?_ ?_
      · intro x hx
        simp only [ok_if, ok_up, ok_some, ok_gd, ok_go, wrap_b]
        refine ⟨fun q => absurd q (by rw [hx]; simp), fun _ => ⟨⟨by omega, by omega⟩, ⟨by omega, by omega⟩, ⟨by omega, by omega⟩, ⟨by omega, by omega⟩, ⟨by omega, by omega, ?_⟩, by omega⟩⟩
        rw [take_snoc i0 hb', val_snoc, i3]
      · intro K hK
        simp only [ok_if]
        exact ⟨fun q => absurd q (by omega), fun _ => hK _ (decide_eq_false (by omega))⟩
    · rw [List.take_of_length_le (by omega)] at i3
      rw [i3, decide_eq_true h5]
  · intro K hK
    simp only [ok_if, ok_bd, ok_at]
    obtain ⟨z, hz⟩ := at_get (l := s) (i := 0) (by omega) (by omega)
    refine ⟨fun q => absurd h1 (by rw [q]; decide), fun _ => ⟨fun q => absurd q (by omega), fun _ => ⟨fun _ => ⟨by omega, z, hz, hK _ (decide_eq_false fun q => h3 ?_)⟩, fun _ => hK _ rfl⟩⟩⟩
    have : z = 48 := (byte_eq (n := 48) (by decide)).1 (by simpa using q)
    rw [← this]; exact hz
theorem count_itoa {n : Int} (h0 : 0 ≤ n) (h1 : n ≤ 1000000) : Sh.cmd_count (itoaS n) = some (n, true) := by
  by_cases h : n = 0
  · subst h; decide +kernel
  · obtain ⟨a, b, _⟩ := itoa_facts (c := n) (by omega) h1
    rw [count_num a, b]
theorem rnum_itoa {n : Int} (h0 : 0 ≤ n) (h1 : n ≤ 1000000) : Sh.rectoref17_Number (itoaS n) = some n := by
  by_cases h : n = 0
  · subst h; decide +kernel
  · obtain ⟨a, b, _⟩ := itoa_facts (c := n) (by omega) h1
    exact ((rnumber_ok (itoaS n)).mono fun r hr => by rw [hr.1 a, b]).eq
theorem rcut_ok {s : List UInt8} (hs : s.length ≤ 1000000000) {c : UInt8} (k : Int) (hk : k = (c.toNat : Int)) : Sh.rectoref17_cut s k = some (s.takeWhile (· != c), (s.dropWhile (· != c)).drop 1, decide (c ∈ s)) := by
  subst hk
  apply Ok.eq
  unfold Sh.rectoref17_cut
  refine ok_iter (I := fun i => 0 ≤ i ∧ i ≤ s.length ∧ c ∉ s.take i.toNat) (μ := fun i => (s.length - i).toNat) ?_ ⟨by omega, by omega, by simp⟩
  rintro i ⟨i0, i1, i2⟩
  simp only [ok_if, ok_up, ok_some]
  refine ⟨fun hi => ?_, fun hi => ?_⟩
  · obtain ⟨z, hz⟩ := at_get (l := s) i0 hi
    have hsp : s = s.take i.toNat ++ z :: s.drop (i + 1).toNat := by
      conv => lhs; rw [← List.take_append_drop i.toNat s, drop_at i0 hz]
    simp only [ok_bd, ok_at, ok_if, ok_up, ok_some, ok_gd, ok_lt, ok_go]
    refine ⟨i0, z, hz, fun q => ⟨⟨by omega, by omega⟩, ⟨by omega, by omega⟩, ⟨by omega, by omega⟩, ?_⟩, fun q => ⟨⟨by omega, by omega⟩, ⟨by omega, by omega, fun hc => ?_⟩, by omega⟩⟩
    · have hzc : z = c := UInt8.toNat_inj.1 (by omega)
      subst hzc
      have hall : ∀ x ∈ s.take i.toNat, (x != z) = true := fun x hx => by
        rw [bne_iff_ne]; exact fun e => i2 (e ▸ hx)
      have e1 : s.takeWhile (· != z) = s.take i.toNat := by
        conv => lhs; rw [hsp]
        rw [List.takeWhile_append_of_pos hall]; simp
      have e2 : (s.dropWhile (· != z)).drop 1 = s.drop (i + 1).toNat := by
        conv => lhs; rw [hsp]
        rw [List.dropWhile_append_of_pos hall]; simp
      rw [e1, e2, decide_eq_true (List.mem_of_getElem? hz)]
    · rw [take_snoc i0 hz] at hc
      rcases List.mem_append.1 hc with e | e
      · exact i2 e
      · rw [List.mem_singleton.1 e] at q; exact q rfl
  · rw [List.take_of_length_le (by omega)] at i2
    have hall : ∀ x ∈ s, (x != c) = true := fun x hx => by rw [bne_iff_ne]; exact fun e => i2 (e ▸ hx)
    have e1 : s.takeWhile (· != c) = s := by have := List.takeWhile_append_of_pos (l₂ := []) hall; simpa using this
    have e2 : s.dropWhile (· != c) = [] := by have := List.dropWhile_append_of_pos (l₂ := []) hall; simpa using this
    rw [e1, e2, decide_eq_false i2]; rfl
end Go.S
end

section
namespace Go.S
open Go
theorem cutc_at {a : List UInt8} {c : UInt8} (b : List UInt8) (ha : c ∉ a) (hs : a.length + b.length ≤ 1000000000) : Sh.strings_Cut (a ++ c :: b) [c] = some (a, b, true) := by
  apply Ok.eq
  unfold Sh.strings_Cut Sh.internal_stringslite_Cut
  rw [index_ok, Option.bind_some]
  have hl : (a ++ c :: b).length = a.length + b.length + 1 := by simp; omega
  rw [ix_at b ha]
  simp only [ok_if, ok_gd, ok_lt, ok_bd, ok_some]
  refine ⟨fun _ => ⟨⟨by omega, by omega⟩, ⟨by simp; omega, by simp; omega⟩, ⟨by simp; omega, by simp; omega⟩, ?_⟩, fun h => by omega⟩
  simp only [List.length_cons, List.length_nil]
  rw [show ((a.length : Int) + ((0 + 1 : Nat) : Int)).toNat = a.length + 1 by omega]
  simp
theorem cutc_no {s : List UInt8} {c : UInt8} (h : c ∉ s) : Sh.strings_Cut s [c] = some (s, [], false) := by
  unfold Sh.strings_Cut Sh.internal_stringslite_Cut
  rw [index_ok, Option.bind_some, ix_no h, if_neg (by decide)]; rfl
theorem bne_all {a : List UInt8} {c : UInt8} (ha : c ∉ a) : ∀ x ∈ a, (x != c) = true := fun x hx => by rw [bne_iff_ne]; exact fun e => ha (e ▸ hx)
theorem rcut_at {a : List UInt8} {c : UInt8} (b : List UInt8) (ha : c ∉ a) (hs : a.length + b.length ≤ 100000000) {k : Int} (hk : k = (c.toNat : Int)) : Sh.rectoref17_cut (a ++ c :: b) k = some (a, b, true) := by
  rw [rcut_ok (by simp; omega) k hk, List.takeWhile_append_of_pos (bne_all ha), List.dropWhile_append_of_pos (bne_all ha)]
  simp
theorem rcut_no {s : List UInt8} {c : UInt8} (h : c ∉ s) (hs : s.length ≤ 100000000) {k : Int} (hk : k = (c.toNat : Int)) : Sh.rectoref17_cut s k = some (s, [], false) := by
  have h1 := List.takeWhile_append_of_pos (l₂ := []) (bne_all h)
  have h2 := List.dropWhile_append_of_pos (l₂ := []) (bne_all h)
  rw [List.append_nil] at h1 h2
  rw [rcut_ok (by omega) k hk, h1, h2, decide_eq_false h]
  simp
theorem rfields_ok {s : List UInt8} (hs : s.length ≤ 10000000) : Sh.rectoref17_fields s = some (spl 32 s) := by
  apply Ok.eq
  unfold Sh.rectoref17_fields
  refine ok_iter (I := fun t => t.1.length ≤ s.length ∧ t.2.1.length + t.1.length ≤ s.length + (if t.2.2 = true then 0 else 1) ∧ (if t.2.2 = true then t.2.1 ++ spl 32 t.1 = spl 32 s else t.2.1 = spl 32 s)) (μ := fun t => t.1.length + (if t.2.2 = true then 1 else 0)) ?_ ⟨by simp, by simp, by simp⟩
  rintro ⟨u, o, m⟩ ⟨i0, i1, i2⟩
  dsimp only at i0 i1 i2 ⊢
  simp only [ok_if, ok_up, ok_some]
  refine ⟨fun hm => ?_, fun hm => ?_⟩
  · rw [if_pos hm] at i1 i2
    by_cases h : (32 : UInt8) ∈ u
    · obtain ⟨a, b, e, ha⟩ := split_mem h
      subst e
      simp only [List.length_append, List.length_cons] at i0 i1
      rw [rcut_at (k := 32) b ha (by omega) (by decide), Option.bind_some]
      simp only [ok_lt, ok_gd, ok_go]
      refine ⟨by simp; omega, ⟨by omega, by simp; omega, ?_⟩, by simp [hm]; omega⟩
      rw [if_pos trivial, ← i2, spl_at b ha]; simp
    · rw [rcut_no (k := 32) h (by omega) (by decide), Option.bind_some]
      simp only [ok_lt, ok_gd, ok_go]
      refine ⟨by simp; omega, ⟨by simp, by simp; omega, ?_⟩, by simp [hm]⟩
      rw [if_neg (by simp), ← i2, spl_no h]
  · rw [if_neg hm] at i2; exact i2
end Go.S
end

section
namespace Go.S
open Go
theorem goodS_facts {s : List UInt8} (h : goodS s = true) : s ≠ [] ∧ (32 : UInt8) ∉ s ∧ (10 : UInt8) ∉ s ∧ s.length ≤ 32 ∧ ∃ z r, s = z :: r ∧ az z = true := by
  unfold goodS at h
  rw [Bool.and_eq_true, Bool.and_eq_true] at h
  obtain ⟨⟨h1, h2⟩, h3⟩ := h
  rw [List.all_eq_true] at h3
  cases s with
  | nil => cases h2
  | cons z r =>
    refine ⟨by simp, fun q => ?_, fun q => ?_, of_decide_eq_true h1, z, r, rfl, h2⟩
    · have := h3 _ q; revert this; decide
    · have := h3 _ q; revert this; decide
theorem partS_facts {s : List UInt8} (h : partS s = true) : s ≠ [] ∧ ∀ z ∈ s, goodN z.toNat = true := by
  unfold partS at h
  rw [Bool.and_eq_true, List.all_eq_true] at h
  refine ⟨fun e => ?_, h.2⟩
  have := h.1
  rw [e] at this
  revert this; decide
theorem spl_mem (c : UInt8) : ∀ (s : List UInt8) (z : UInt8), z ∈ s → z = c ∨ ∃ y ∈ spl c s, z ∈ y
  | x :: r, z, h => by
    by_cases hz : z = c
    · exact .inl hz
    · right
      obtain ⟨y, l, e⟩ := List.exists_cons_of_ne_nil (spl_ne c r)
      by_cases hx : x = c
      · have hzr : z ∈ r := by
          rcases List.mem_cons.1 h with q | q
          · exact absurd (q.trans hx) hz
          · exact q
        rcases spl_mem c r z hzr with q | ⟨w, hw, q⟩
        · exact absurd q hz
        · exact ⟨w, by simp [spl, hx, hw], q⟩
      · have e2 : spl c (x :: r) = (x :: y) :: l := by simp [spl, hx, e]
        rw [e2]
        rcases List.mem_cons.1 h with q | q
        · exact ⟨_, List.mem_cons_self .., by rw [q]; exact List.mem_cons_self ..⟩
        · rcases spl_mem c r z q with q | ⟨w, hw, q⟩
          · exact absurd q hz
          · rw [e] at hw
            rcases List.mem_cons.1 hw with e3 | e3
            · exact ⟨_, List.mem_cons_self .., by rw [e3] at q; exact List.mem_cons_of_mem _ q⟩
            · exact ⟨w, List.mem_cons_of_mem _ e3, q⟩
theorem checkP_facts {p : List UInt8} (h : checkP p = 0) : p ≠ [] ∧ (32 : UInt8) ∉ p ∧ (10 : UInt8) ∉ p ∧ p.length ≤ 64 := by
  unfold checkP at h
  by_cases hl : 64 < p.length
  · rw [if_pos hl] at h; exact absurd h (by decide)
  · rw [if_neg hl] at h
    by_cases ha : (spl 47 p).all partS = true
    · rw [List.all_eq_true] at ha
      refine ⟨fun e => ?_, fun q => ?_, fun q => ?_, by omega⟩
      · have := ha [] (by rw [e]; decide)
        revert this; decide
      · rcases spl_mem 47 p 32 q with e | ⟨y, hy, hq⟩
        · revert e; decide
        · have := (partS_facts (ha y hy)).2 _ hq; revert this; decide
      · rcases spl_mem 47 p 10 q with e | ⟨y, hy, hq⟩
        · revert e; decide
        · have := (partS_facts (ha y hy)).2 _ hq; revert this; decide
    · rw [if_neg ha] at h; exact absurd h (by decide)
end Go.S
end

section
namespace Go.S
open Go
def normC (c : CmdCmdP) : CmdCmdP := ⟨c.verb, if namedS c = true then c.name else [], if numberedS c = true then c.n else 0, if toldS c = true then c.text else [], forcedS c, if c.verb = rebaseW then c.todo.map norm else []⟩
theorem textS_norm : ∀ l : List TodoStep, textS (l.map norm) = textS l
  | [] => rfl
  | x :: r => by
    have h : lineT (norm x) = lineT x := by
      unfold lineT tailT norm
      by_cases q : x.verb = rewordW <;> simp [q]
    simp [textS, h, textS_norm r]
theorem named_norm (c : CmdCmdP) : namedS (normC c) = namedS c := by
  cases h : namedS c with
  | true => unfold namedS at h ⊢; simp only [normC, namedS, h, if_true]
  | false => unfold namedS; simp [normC, h]
theorem told_norm (c : CmdCmdP) : toldS (normC c) = toldS c := by
  cases h : toldS c with
  | true => unfold toldS at h ⊢; simp only [normC, toldS, h, if_true]
  | false => unfold toldS; simp [normC, h]
theorem forced_norm (c : CmdCmdP) : forcedS (normC c) = forcedS c := by
  unfold forcedS
  simp only [normC, forcedS]
  cases c.force <;> by_cases h : c.verb = rmW ∨ c.verb = switchW <;> simp [h]
theorem numbered_norm (c : CmdCmdP) : numberedS (normC c) = numberedS c := by
  unfold numberedS
  by_cases hs : c.verb = switchW
  · by_cases hn : c.name = []
    · simp [normC, namedS, hn, hs]
    · simp [normC, namedS, hn, hs]
  · simp [normC, hs]
theorem say_norm (c : CmdCmdP) : sayS (normC c) = sayS c := by
  unfold sayS tailS
  rw [named_norm, numbered_norm, forced_norm, told_norm]
  have h1 : (normC c).verb = c.verb := rfl
  rw [h1]
  congr 1
  congr 1
  · by_cases h : namedS c = true <;> simp [normC, h]
  congr 1
  · by_cases h : numberedS c = true <;> simp [normC, h]
  congr 1
  congr 1
  · by_cases h : toldS c = true <;> simp [normC, h]
  · by_cases h : c.verb = rebaseW <;> simp [normC, h, textS_norm]
end Go.S
end

section
namespace Go.S
open Go
theorem firstE_norm : ∀ l : List TodoStep, firstE l = 0 → firstE (l.map norm) = 0
  | [], _ => rfl
  | x :: r, h => by
    unfold firstE at h
    have hx : stepE x = 0 := by
      by_cases q : stepE x = 0
      · exact q
      · rw [if_neg q] at h; exact absurd h q
    rw [if_pos hx] at h
    have hn : stepE (norm x) = 0 := by
      rw [← hx]
      unfold stepE norm
      by_cases q : x.verb = rewordW <;> simp [q]
    rw [List.map_cons, firstE, if_pos hn]
    exact firstE_norm r h
theorem chk_parts {c : CmdCmdP} (h : chkE c = 0) : nameS c = 0 ∧ numS c = 0 ∧ moreS c = 0 := by
  simp only [chkE, fz] at h
  by_cases h1 : nameS c = 0
  · rw [if_pos h1] at h
    by_cases h2 : numS c = 0
    · rw [if_pos h2] at h
      by_cases h3 : moreS c = 0
      · exact ⟨h1, h2, h3⟩
      · rw [if_neg h3] at h; exact absurd h h3
    · rw [if_neg h2] at h; exact absurd h h2
  · rw [if_neg h1] at h; exact absurd h h1
theorem chk_norm {c : CmdCmdP} (h : chkE c = 0) : chkE (normC c) = 0 := by
  obtain ⟨h1, h2, h3⟩ := chk_parts h
  have n1 : nameS (normC c) = 0 := by
    rw [← h1]
    unfold nameS
    simp only [normC, namedS]
    by_cases e : c.name = []
    · simp [e]
    · by_cases a : c.verb = addW ∨ c.verb = branchW ∨ c.verb = deleteW ∨ c.verb = mergeW ∨ c.verb = rmW ∨ c.verb = resetW ∨ c.verb = switchW
      · simp [e, a]
      · have b : c.verb ≠ addW ∧ c.verb ≠ branchW ∧ c.verb ≠ deleteW ∧ c.verb ≠ mergeW ∧ c.verb ≠ rmW ∧ c.verb ≠ resetW ∧ c.verb ≠ switchW := by simpa [not_or] using a
        simp [b]
  have n3 : moreS (normC c) = 0 := by
    by_cases a : c.verb = commitW ∨ c.verb = stashW
    · rw [← h3]
      unfold moreS
      simp only [normC, toldS]
      by_cases e : c.text = [] <;> simp [e, a] <;> rfl
    · by_cases b : c.verb = rebaseW
      · unfold moreS at h3 ⊢
        rw [if_neg a, if_pos b] at h3
        have hv : (normC c).verb = c.verb := rfl
        rw [hv, if_neg a, if_pos b]
        simp only [normC, if_pos b]
        unfold stepsE at h3 ⊢
        rw [List.length_map]
        by_cases hl : 32 < c.todo.length
        · rw [if_pos hl] at h3; exact absurd h3 (by decide)
        · rw [if_neg hl] at h3 ⊢
          exact firstE_norm _ h3
      · have hv : (normC c).verb = c.verb := rfl
        unfold moreS
        rw [hv, if_neg a, if_neg b]
  have n2 : numS (normC c) = 0 := by
    rw [← h2]
    unfold numS
    simp only [normC, numberedS, namedS]
    by_cases p : c.verb = popW ∨ c.verb = applyW ∨ c.verb = shelveW
    · have : c.verb = pickW ∨ c.verb = revertW ∨ c.verb = popW ∨ c.verb = applyW ∨ c.verb = shelveW ∨ c.verb = rebaseW ∨ c.verb = resetW ∨ (c.verb = switchW ∧ c.name = []) := by
        rcases p with p | p | p <;> simp [p]
      simp [p, this]
    · by_cases s : c.verb = switchW
      · by_cases e : c.name = [] <;> simp [s, e] <;> simp [switchW, popW, applyW, shelveW, pickW, revertW, rebaseW, resetW]
      · by_cases q : c.verb = pickW ∨ c.verb = revertW ∨ c.verb = rebaseW ∨ c.verb = resetW
        · have : c.verb = pickW ∨ c.verb = revertW ∨ c.verb = popW ∨ c.verb = applyW ∨ c.verb = shelveW ∨ c.verb = rebaseW ∨ c.verb = resetW ∨ (c.verb = switchW ∧ c.name = []) := by
            rcases q with q | q | q | q <;> simp [q]
          have this2 : c.verb = pickW ∨ c.verb = revertW ∨ c.verb = popW ∨ c.verb = applyW ∨ c.verb = shelveW ∨ c.verb = rebaseW ∨ c.verb = resetW := by
            rcases q with q | q | q | q <;> simp [q]
          simp [p, this2, s, q]
        · simp [p, s, q]
  simp only [chkE, fz, n1, n2, n3, if_true]
end Go.S
end

section
namespace Go.S
open Go
def bareC (v : List UInt8) : CmdCmdP := ⟨v, [], 0, [], false, []⟩
theorem first1 (n : List UInt8) (r : List (List UInt8)) : Sh.cmd_first (n :: r) = some n := by
  unfold Sh.cmd_first
  rw [if_neg (by simp; omega)]
  rfl
theorem words_name {v n : List UInt8} (hv : v = addW ∨ v = branchW ∨ v = deleteW ∨ v = mergeW) (hn : n ≠ []) : Sh.cmd_words (bareC v) [n] = some (true, ⟨v, n, 0, [], false, []⟩) := by
  unfold Sh.cmd_words
  rcases hv with rfl | rfl | rfl | rfl <;> simp [jn, bareC, first1, hn, addW, branchW, deleteW, mergeW]
theorem words_num {v n : List UInt8} {k : Int} (hv : v = pickW ∨ v = revertW ∨ v = popW ∨ v = applyW ∨ v = shelveW ∨ v = rebaseW) (hk : Sh.cmd_count n = some (k, true)) : Sh.cmd_words (bareC v) [n] = some (true, ⟨v, [], k, [], false, []⟩) := by
  unfold Sh.cmd_words
  rcases hv with rfl | rfl | rfl | rfl | rfl | rfl <;> simp [jn, bareC, first1, hk, pickW, revertW, popW, applyW, shelveW, rebaseW]
theorem words_none {v : List UInt8} (hv : v = addW ∨ v ∈ verbsC.drop 15) : Sh.cmd_words (bareC v) [] = some (true, bareC v) := by
  unfold Sh.cmd_words
  rcases hv with rfl | hv
  · simp [jn, bareC, addW]
  · have hv' : v ∈ [[99, 111, 110, 116, 105, 110, 117, 101], [115, 107, 105, 112], [97, 98, 111, 114, 116], [117, 110, 100, 111], [114, 101, 100, 111]] := hv
    simp only [List.mem_cons, List.not_mem_nil, or_false] at hv'
    rcases hv' with rfl | rfl | rfl | rfl | rfl <;> simp [jn, bareC]
end Go.S
end

section
namespace Go.S
open Go
theorem words_reset {n m : List UInt8} {k : Int} (hn : n ≠ []) (hk : Sh.cmd_count m = some (k, true)) : Sh.cmd_words (bareC resetW) [n, m] = some (true, ⟨resetW, n, k, [], false, []⟩) := by
  unfold Sh.cmd_words
  simp [jn, bareC, first1, hn, hk, resetW, at_]
theorem words_rm {n : List UInt8} (hn : n ≠ []) : Sh.cmd_words (bareC rmW) [n] = some (true, ⟨rmW, n, 0, [], false, []⟩) := by
  unfold Sh.cmd_words
  simp [jn, bareC, first1, hn, rmW]
theorem words_rmf {n : List UInt8} (hn : n ≠ []) : Sh.cmd_words (bareC rmW) [n, [45, 102]] = some (true, ⟨rmW, n, 0, [], true, []⟩) := by
  unfold Sh.cmd_words
  simp [jn, bareC, first1, hn, rmW, at_, gd, lt, I64]
end Go.S
end

section
namespace Go.S
open Go
theorem words_sw {n : List UInt8} (hn : n ≠ []) (hd : Sh.cmd_digit n = some false) : Sh.cmd_words (bareC switchW) [n] = some (true, ⟨switchW, n, 0, [], false, []⟩) := by
  unfold Sh.cmd_words
  simp [jn, bareC, first1, hn, hd, switchW]
theorem words_swf {n : List UInt8} (hn : n ≠ []) (hd : Sh.cmd_digit n = some false) : Sh.cmd_words (bareC switchW) [n, [45, 102]] = some (true, ⟨switchW, n, 0, [], true, []⟩) := by
  unfold Sh.cmd_words
  simp [jn, bareC, first1, hn, hd, switchW, at_, gd, lt, I64]
theorem words_swn {n : List UInt8} {k : Int} (hd : Sh.cmd_digit n = some true) (hk : Sh.cmd_count n = some (k, true)) : Sh.cmd_words (bareC switchW) [n] = some (true, ⟨switchW, [], k, [], false, []⟩) := by
  unfold Sh.cmd_words
  simp [jn, bareC, first1, hd, hk, switchW]
theorem words_swnf {n : List UInt8} {k : Int} (hd : Sh.cmd_digit n = some true) (hk : Sh.cmd_count n = some (k, true)) : Sh.cmd_words (bareC switchW) [n, [45, 102]] = some (true, ⟨switchW, [], k, [], true, []⟩) := by
  unfold Sh.cmd_words
  simp [jn, bareC, first1, hd, hk, switchW, at_, gd, lt, I64]
end Go.S
end

section
namespace Go.S
open Go
theorem digit_az {z : UInt8} {r : List UInt8} (h : az z = true) : Sh.cmd_digit (z :: r) = some false := by
  unfold az at h
  rw [Bool.and_eq_true] at h
  have h1 := of_decide_eq_true h.1
  unfold Sh.cmd_digit
  simp [at_]
  omega
theorem digit_itoa {n : Int} (h0 : 0 ≤ n) (h1 : n ≤ 1000000) : Sh.cmd_digit (itoaS n) = some true := by
  by_cases h : n = 0
  · subst h; decide +kernel
  · obtain ⟨a, _, hd⟩ := itoa_facts (c := n) (by omega) h1
    have hl := a.1
    cases e : itoaS n with
    | nil => rw [e] at hl; simp at hl
    | cons z r =>
      have hz := hd z (by rw [e]; exact List.mem_cons_self ..)
      unfold dig at hz
      unfold Sh.cmd_digit
      rw [if_neg (by simp), show at_ (z :: r) 0 = some z from rfl, Option.bind_some, if_pos (by omega), Option.bind_some, decide_eq_true (by omega)]
end Go.S
end

section
namespace Go.S
open Go
theorem read_alone {v : List UInt8} (hb : (32 : UInt8) ∉ v) (h1 : v ≠ commitW) (h2 : v ≠ stashW) {c : CmdCmdP} {ok : Bool} (hw : Sh.cmd_words (bareC v) [] = some (ok, c)) : Sh.cmd_read v = some (c, ok) := by
  unfold Sh.cmd_read commitW stashW at *
  rw [cutc_no hb, Option.bind_some]
  have hw' : Sh.cmd_words ⟨v, [], 0, [], false, []⟩ [] = some (ok, c) := hw
  simp [jn, h1, h2, hw']
end Go.S
end

section
namespace Go.S
open Go
noncomputable def hearB (v r b : Str) (m : Bool) (k : Int) (bad : Rectoref3WrongP) (w : List Str) : Option (Rectoref17CmdP × Rectoref3WrongP) :=
 jn (fun ((w13_15, c3_16, c4_17) : List Str × Str × Bool) =>
 jn (fun ((w13_30, c1_31, c2_32) : List Str × Str × Int) =>
 if 0 < (w13_30.length : Int) then (some (⟨[], [], 0, [], false, []⟩, ⟨bad.parts, bad.err⟩))
 else (jn (fun (c5_69 : List Rectoref17Step) =>
 (Sh.rectoref17_CheckCmd (⟨v, c1_31, c2_32, c3_16, c4_17, c5_69⟩ : Rectoref17CmdP)).bind (fun y227_74 =>
 if y227_74.err = 0 then (some (⟨v, c1_31, c2_32, c3_16, c4_17, c5_69⟩, ⟨y227_74.parts, y227_74.err⟩))
 else (some (⟨[], [], 0, [], false, []⟩, ⟨y227_74.parts, y227_74.err⟩)))) (fun k70 => if v = [114, 101, 98, 97, 115, 101] then ((Sh.rectoref17_Parse b).bind (fun y214_71 =>
 if y214_71.2.err = 0 then (k70 y214_71.1)
 else ((Sh.rectoref3_In [99, 109, 100] k y214_71.2).bind (fun y223_73 =>
 some (⟨[], [], 0, [], false, []⟩, ⟨y223_73.parts, y223_73.err⟩)))))
 else (k70 ([] : List Rectoref17Step))))) (fun k33 => jn (fun (x85_34 : Bool) =>
 if x85_34 = true then (jn (fun (_ : Unit) =>
 jn (fun (x106_37 : Bool) =>
 if x106_37 = true then (some (⟨[], [], 0, [], false, []⟩, ⟨bad.parts, bad.err⟩))
 else ((at_ w13_15 0).bind (fun z110_40 =>
 k33 ([], z110_40, 0)))) (fun k38 => if (w13_15.length : Int) = 1 then ((at_ w13_15 0).bind (fun z103_39 =>
 k38 (decide (z103_39 = []))))
 else (k38 true))) (fun k36 => if v = [97, 100, 100] then (if (w13_15.length : Int) = 0 then (k33 (w13_15, [], 0))
 else (k36 ()))
 else (k36 ())))
 else (if v = [115, 119, 105, 116, 99, 104] then (jn (fun (x123_41 : Bool) =>
 if x123_41 = true then (some (⟨[], [], 0, [], false, []⟩, ⟨bad.parts, bad.err⟩))
 else (jn (fun (x137_44 : Bool) =>
 if x137_44 = true then ((at_ w13_15 0).bind (fun z139_50 =>
 (Sh.rectoref17_Number z139_50).bind (fun y141_51 =>
 if y141_51 < 0 then (some (⟨[], [], 0, [], false, []⟩, ⟨bad.parts, bad.err⟩))
 else (k33 ([], [], y141_51)))))
 else ((at_ w13_15 0).bind (fun z149_52 =>
 k33 ([], z149_52, 0)))) (fun k45 => (at_ w13_15 0).bind (fun z127_46 =>
 (at_ z127_46 0).bind (fun z129_47 =>
 if 48 ≤ (z129_47.toNat : Int) then ((at_ w13_15 0).bind (fun z133_48 =>
 (at_ z133_48 0).bind (fun z135_49 =>
 k45 (decide ((z135_49.toNat : Int) ≤ 57)))))
 else (k45 false)))))) (fun k42 => if (w13_15.length : Int) = 1 then ((at_ w13_15 0).bind (fun z120_43 =>
 k42 (decide (z120_43 = []))))
 else (k42 true)))
 else (if v = [114, 101, 115, 101, 116] then (jn (fun (x169_53 : Bool) =>
 if x169_53 = true then (some (⟨[], [], 0, [], false, []⟩, ⟨bad.parts, bad.err⟩))
 else ((at_ w13_15 0).bind (fun z173_58 =>
 (at_ w13_15 1).bind (fun z177_59 =>
 (Sh.rectoref17_Number z177_59).bind (fun y179_60 =>
 k33 ([], z173_58, y179_60)))))) (fun k54 => if (w13_15.length : Int) = 2 then ((at_ w13_15 0).bind (fun z159_55 =>
 if z159_55 = [] then (k54 true)
 else ((at_ w13_15 1).bind (fun z165_56 =>
 (Sh.rectoref17_Number z165_56).bind (fun y167_57 =>
 k54 (decide (y167_57 < 0)))))))
 else (k54 true)))
 else (jn (fun (x181_61 : Bool) =>
 if x181_61 = true then (jn (fun (x197_63 : Bool) =>
 if x197_63 = true then (some (⟨[], [], 0, [], false, []⟩, ⟨bad.parts, bad.err⟩))
 else ((at_ w13_15 0).bind (fun z201_67 =>
 (Sh.rectoref17_Number z201_67).bind (fun y203_68 =>
 k33 ([], [], y203_68))))) (fun k64 => if (w13_15.length : Int) = 1 then ((at_ w13_15 0).bind (fun z193_65 =>
 (Sh.rectoref17_Number z193_65).bind (fun y195_66 =>
 k64 (decide (y195_66 < 0)))))
 else (k64 true)))
 else (k33 (w13_15, [], 0))) (fun k62 => if v = [112, 105, 99, 107] then (k62 (decide (v = [112, 105, 99, 107])))
 else (if v = [114, 101, 118, 101, 114, 116] then (k62 (decide (v = [114, 101, 118, 101, 114, 116])))
 else (if v = [112, 111, 112] then (k62 (decide (v = [112, 111, 112])))
 else (if v = [97, 112, 112, 108, 121] then (k62 (decide (v = [97, 112, 112, 108, 121])))
 else (if v = [115, 104, 101, 108, 118, 101] then (k62 (decide (v = [115, 104, 101, 108, 118, 101])))
 else (k62 (decide (v = [114, 101, 98, 97, 115, 101])))))))))))) (fun k35 => if v = [97, 100, 100] then (k35 (decide (v = [97, 100, 100])))
 else (if v = [114, 109] then (k35 (decide (v = [114, 109])))
 else (if v = [98, 114, 97, 110, 99, 104] then (k35 (decide (v = [98, 114, 97, 110, 99, 104])))
 else (if v = [100, 101, 108, 101, 116, 101] then (k35 (decide (v = [100, 101, 108, 101, 116, 101])))
 else (k35 (decide (v = [109, 101, 114, 103, 101]))))))))) (fun k18 => jn (fun (x51_19 : Bool) =>
 if x51_19 = true then (jn (fun (x60_21 : Bool) =>
 if x60_21 = true then (some (⟨[], [], 0, [], false, []⟩, ⟨bad.parts, bad.err⟩))
 else (k18 ([], r, false))) (fun k22 => if m = true then (k22 (decide (r = [])))
 else (k22 false)))
 else (jn (fun (x63_23 : Bool) =>
 if x63_23 = true then (jn (fun (x77_25 : Bool) =>
 if x77_25 = true then (gd (I64 ((w.length : Int) - 1)) (
 gd ((0 : Int) ≤ ((w.length : Int) - 1) ∧ ((w.length : Int) - 1) ≤ (w.length : Int)) (
 lt (w.take ((w.length : Int) - 1).toNat) (fun y83_29 =>
 k18 (y83_29, [], true)))))
 else (k18 (w, [], false))) (fun k26 => if 1 < (w.length : Int) then (gd (I64 ((w.length : Int) - 1)) (
 (at_ w ((w.length : Int) - 1)).bind (fun z74_27 =>
 k26 (decide (z74_27 = [45, 102])))))
 else (k26 false)))
 else (k18 (w, [], false))) (fun k24 => if v = [114, 109] then (k24 (decide (v = [114, 109])))
 else (k24 (decide (v = [115, 119, 105, 116, 99, 104])))))) (fun k20 => if v = [99, 111, 109, 109, 105, 116] then (k20 (decide (v = [99, 111, 109, 109, 105, 116])))
 else (k20 (decide (v = [115, 116, 97, 115, 104])))))
theorem hear_t {s : Str} {t1 t2 : Str × Str × Bool} {ws : List Str} {k : Int} (h1 : Sh.rectoref17_cut s 10 = some t1) (h2 : Sh.rectoref17_cut t1.1 32 = some t2) (h3 : Sh.rectoref17_Place t2.1 = some k) (hk : ¬ k < 0)
    (hf : t2.2.2 = true → Sh.rectoref17_fields t2.2.1 = some ws) (hm : ¬ t2.2.2 = true → ws = []) (hli : t2.1 ≠ rebaseW → t1.2.2 = false) : Sh.rectoref17_Hear s = hearB t2.1 t2.2.1 t1.2.1 t2.2.2 k ⟨[⟨cmdW, k⟩], 2⟩ ws := by
  have hx : ∀ K : Bool → Option (Rectoref17CmdP × Rectoref3WrongP), jn K (fun k11 => if t2.1 = [114, 101, 98, 97, 115, 101] then k11 false else k11 t1.2.2) = K false := fun K => by
    show (if t2.1 = [114, 101, 98, 97, 115, 101] then K false else K t1.2.2) = K false
    by_cases q : t2.1 = [114, 101, 98, 97, 115, 101]
    · rw [if_pos q]
    · rw [if_neg q, hli q]
  have hy : ∀ K : List Str → Option (Rectoref17CmdP × Rectoref3WrongP), jn K (fun k13 => if t2.2.2 = true then ((Sh.rectoref17_fields t2.2.1).bind (fun y49_14 => k13 y49_14)) else k13 []) = K ws := fun K => by
    show (if t2.2.2 = true then ((Sh.rectoref17_fields t2.2.1).bind (fun y49_14 => K y49_14)) else K []) = K ws
    by_cases q : t2.2.2 = true
    · rw [if_pos q, hf q, Option.bind_some]
    · rw [if_neg q, hm q]
  unfold Sh.rectoref17_Hear hearB
  rw [h1, Option.bind_some, h2, Option.bind_some, h3, Option.bind_some, if_neg hk, at_cmd, Option.bind_some, hx, if_neg (by simp), hy]
theorem hear_gen {s l b v r : Str} {li m : Bool} {ws : List Str} {k : Int} (h1 : Sh.rectoref17_cut s 10 = some (l, b, li)) (h2 : Sh.rectoref17_cut l 32 = some (v, r, m)) (h3 : Sh.rectoref17_Place v = some k) (hk : ¬ k < 0)
    (hf : m = true → Sh.rectoref17_fields r = some ws) (hm : m = false → ws = []) (hli : v ≠ rebaseW → li = false) : Sh.rectoref17_Hear s = hearB v r b m k ⟨[⟨cmdW, k⟩], 2⟩ ws :=
  hear_t (t1 := (l, b, li)) (t2 := (v, r, m)) h1 h2 h3 hk hf (fun h => hm (by simpa using h)) hli
theorem read_t {s : Str} {t : Str × Str × Bool} {ws : List Str} {c : CmdCmdP} {ok : Bool} (hc : Sh.strings_Cut s [32] = some t) (hm : t.2.2 = true) (h1 : t.1 ≠ commitW) (h2 : t.1 ≠ stashW) (hs : Sh.strings_Split t.2.1 [32] = some ws) (hw : Sh.cmd_words (⟨t.1, [], 0, [], false, ([] : List TodoStep)⟩ : CmdCmdP) ws = some (ok, c)) : Sh.cmd_read s = some (c, ok) := by
  have h1' : ¬ t.1 = [99, 111, 109, 109, 105, 116] := h1
  have h2' : ¬ t.1 = [115, 116, 97, 115, 104] := h2
  unfold Sh.cmd_read
  rw [hc, Option.bind_some]
  clear hc
  simp only [jn]
  rw [if_neg h1', decide_eq_false h2', if_neg (by simp), if_pos hm, hs, Option.bind_some, hw, Option.bind_some]
theorem read_gen {s v r : Str} {ws : List Str} {c : CmdCmdP} {ok : Bool} (hc : Sh.strings_Cut s [32] = some (v, r, true)) (h1 : v ≠ commitW) (h2 : v ≠ stashW) (hs : Sh.strings_Split r [32] = some ws) (hw : Sh.cmd_words (⟨v, [], 0, [], false, ([] : List TodoStep)⟩ : CmdCmdP) ws = some (ok, c)) : Sh.cmd_read s = some (c, ok) :=
  read_t (t := (v, r, true)) hc rfl h1 h2 hs hw
end Go.S
end

section
namespace Go.S
open Go
variable {r b : Str} {k : Int} {bad : Rectoref3WrongP}
set_option maxHeartbeats 4000000 in
theorem hearB_name {v n : Str} (hv : v = addW ∨ v = branchW ∨ v = deleteW ∨ v = mergeW ∨ v = rmW) (hn : n ≠ []) (hc : Sh.rectoref17_CheckCmd ⟨v, n, 0, [], false, []⟩ = some ⟨[], 0⟩) : hearB v r b true k bad [n] = some (⟨v, n, 0, [], false, []⟩, ⟨[], 0⟩) := by
  unfold hearB
  rcases hv with rfl | rfl | rfl | rfl | rfl <;> simp only [addW, branchW, deleteW, mergeW, rmW] at hc ⊢ <;> simp [jn, hn, hc, at_]
set_option maxHeartbeats 4000000 in
theorem hearB_rmf {n : Str} (hn : n ≠ []) (hc : Sh.rectoref17_CheckCmd ⟨rmW, n, 0, [], true, []⟩ = some ⟨[], 0⟩) : hearB rmW r b true k bad [n, [45, 102]] = some (⟨rmW, n, 0, [], true, []⟩, ⟨[], 0⟩) := by
  unfold hearB
  simp only [rmW] at hc ⊢
  simp [jn, hn, hc, at_, gd, lt, I64]
set_option maxHeartbeats 4000000 in
theorem hearB_none {v : Str} (hv : v = addW ∨ v ∈ verbsC.drop 15) (hc : Sh.rectoref17_CheckCmd ⟨v, [], 0, [], false, []⟩ = some ⟨[], 0⟩) : hearB v r b false k bad [] = some (⟨v, [], 0, [], false, []⟩, ⟨[], 0⟩) := by
  unfold hearB
  rcases hv with rfl | hv
  · simp only [addW] at hc ⊢
    simp [jn, hc]
  · have hv' : v ∈ [[99, 111, 110, 116, 105, 110, 117, 101], [115, 107, 105, 112], [97, 98, 111, 114, 116], [117, 110, 100, 111], [114, 101, 100, 111]] := hv
    simp only [List.mem_cons, List.not_mem_nil, or_false] at hv'
    rcases hv' with rfl | rfl | rfl | rfl | rfl <;> simp [jn, hc]
set_option maxHeartbeats 4000000 in
theorem hearB_num {v n : Str} {i : Int} (hv : v = pickW ∨ v = revertW ∨ v = popW ∨ v = applyW ∨ v = shelveW) (hn : Sh.rectoref17_Number n = some i) (hi : ¬ i < 0) (hc : Sh.rectoref17_CheckCmd ⟨v, [], i, [], false, []⟩ = some ⟨[], 0⟩) : hearB v r b true k bad [n] = some (⟨v, [], i, [], false, []⟩, ⟨[], 0⟩) := by
  unfold hearB
  rcases hv with rfl | rfl | rfl | rfl | rfl <;> simp only [pickW, revertW, popW, applyW, shelveW] at hc ⊢ <;> simp [jn, hn, hc, at_, hi]
set_option maxHeartbeats 4000000 in
theorem hearB_rebase {n : Str} {i : Int} {l : List Rectoref17Step} (hn : Sh.rectoref17_Number n = some i) (hi : ¬ i < 0) (hl : Sh.rectoref17_Parse b = some (l, ⟨[], 0⟩)) (hc : Sh.rectoref17_CheckCmd ⟨rebaseW, [], i, [], false, l⟩ = some ⟨[], 0⟩) : hearB rebaseW r b true k bad [n] = some (⟨rebaseW, [], i, [], false, l⟩, ⟨[], 0⟩) := by
  unfold hearB
  simp only [rebaseW] at hc ⊢
  simp [jn, hn, hc, at_, hi, hl]
set_option maxHeartbeats 4000000 in
theorem hearB_reset {n m : Str} {i : Int} (hn : n ≠ []) (hm : Sh.rectoref17_Number m = some i) (hi : ¬ i < 0) (hc : Sh.rectoref17_CheckCmd ⟨resetW, n, i, [], false, []⟩ = some ⟨[], 0⟩) : hearB resetW r b true k bad [n, m] = some (⟨resetW, n, i, [], false, []⟩, ⟨[], 0⟩) := by
  unfold hearB
  simp only [resetW] at hc ⊢
  simp [jn, hn, hm, hc, at_, hi]
set_option maxHeartbeats 4000000 in
theorem hearB_sw {z : UInt8} {u : Str} (hz : ¬ ((48 : Int) ≤ z.toNat ∧ (z.toNat : Int) ≤ 57)) (hc : Sh.rectoref17_CheckCmd ⟨switchW, z :: u, 0, [], false, []⟩ = some ⟨[], 0⟩) : hearB switchW r b true k bad [z :: u] = some (⟨switchW, z :: u, 0, [], false, []⟩, ⟨[], 0⟩) := by
  unfold hearB
  simp only [switchW] at hc ⊢
  by_cases h1 : (48 : Int) ≤ z.toNat
  · have h2 : ¬ (z.toNat : Int) ≤ 57 := fun h => hz ⟨h1, h⟩
    simp [jn, hc, at_, h1, h2]
  · simp [jn, hc, at_, h1]
set_option maxHeartbeats 4000000 in
theorem hearB_swf {z : UInt8} {u : Str} (hz : ¬ ((48 : Int) ≤ z.toNat ∧ (z.toNat : Int) ≤ 57)) (hc : Sh.rectoref17_CheckCmd ⟨switchW, z :: u, 0, [], true, []⟩ = some ⟨[], 0⟩) : hearB switchW r b true k bad [z :: u, [45, 102]] = some (⟨switchW, z :: u, 0, [], true, []⟩, ⟨[], 0⟩) := by
  unfold hearB
  simp only [switchW] at hc ⊢
  by_cases h1 : (48 : Int) ≤ z.toNat
  · have h2 : ¬ (z.toNat : Int) ≤ 57 := fun h => hz ⟨h1, h⟩
    simp [jn, hc, at_, h1, h2, gd, lt, I64]
  · simp [jn, hc, at_, h1, gd, lt, I64]
set_option maxHeartbeats 4000000 in
theorem hearB_swn {z : UInt8} {u : Str} {i : Int} (h1 : (48 : Int) ≤ z.toNat) (h2 : (z.toNat : Int) ≤ 57) (hn : Sh.rectoref17_Number (z :: u) = some i) (hi : ¬ i < 0) (hc : Sh.rectoref17_CheckCmd ⟨switchW, [], i, [], false, []⟩ = some ⟨[], 0⟩) : hearB switchW r b true k bad [z :: u] = some (⟨switchW, [], i, [], false, []⟩, ⟨[], 0⟩) := by
  unfold hearB
  simp only [switchW] at hc ⊢
  simp [jn, hc, at_, h1, h2, hn, hi]
set_option maxHeartbeats 4000000 in
theorem hearB_swnf {z : UInt8} {u : Str} {i : Int} (h1 : (48 : Int) ≤ z.toNat) (h2 : (z.toNat : Int) ≤ 57) (hn : Sh.rectoref17_Number (z :: u) = some i) (hi : ¬ i < 0) (hc : Sh.rectoref17_CheckCmd ⟨switchW, [], i, [], true, []⟩ = some ⟨[], 0⟩) : hearB switchW r b true k bad [z :: u, [45, 102]] = some (⟨switchW, [], i, [], true, []⟩, ⟨[], 0⟩) := by
  unfold hearB
  simp only [switchW] at hc ⊢
  simp [jn, hc, at_, h1, h2, hn, hi, gd, lt, I64]
set_option maxHeartbeats 4000000 in
theorem hearB_text {v : Str} {m : Bool} {ws : List Str} (hv : v = commitW ∨ v = stashW) (hm : m = true → r ≠ []) (hc : Sh.rectoref17_CheckCmd ⟨v, [], 0, r, false, []⟩ = some ⟨[], 0⟩) : hearB v r b m k bad ws = some (⟨v, [], 0, r, false, []⟩, ⟨[], 0⟩) := by
  unfold hearB
  cases m with
  | false => rcases hv with rfl | rfl <;> simp only [commitW, stashW] at hc ⊢ <;> simp [jn, hc]
  | true => 
    have hr := hm rfl
    rcases hv with rfl | rfl <;> simp only [commitW, stashW] at hc ⊢ <;> simp [jn, hc, hr]
end Go.S
end

section
namespace Go.S
open Go
theorem parse_gen {s line behind : Str} {lines : Bool} {c : CmdCmdP} {l : List TodoStep} (h1 : Sh.strings_Cut s [10] = some (line, behind, lines)) (h2 : Sh.cmd_read line = some (c, true)) (hp : ¬ placeS c.verb < 0) (hx : lines = true → c.verb = rebaseW) (ht : c.verb = rebaseW → Sh.todo_Parse behind = some (l, .nil)) (ht' : c.verb ≠ rebaseW → l = c.todo) (hc : Sh.cmd_Check ⟨c.verb, c.name, c.n, c.text, c.force, l⟩ = some .nil) : Sh.cmd_Parse s = some (⟨c.verb, c.name, c.n, c.text, c.force, l⟩, .nil) := by
  have hfin : ((Sh.cmd_Check (⟨c.verb, c.name, c.n, c.text, c.force, l⟩ : CmdCmdP)).bind (fun y65_14 => if y65_14.isNil = true then (some ((⟨c.verb, c.name, c.n, c.text, c.force, l⟩ : CmdCmdP), Err.nil)) else (some (⟨[], [], 0, [], false, []⟩, y65_14)))) = some (⟨c.verb, c.name, c.n, c.text, c.force, l⟩, .nil) := by
    rw [hc, Option.bind_some, if_pos (show Err.nil.isNil = true from rfl)]
  unfold Sh.cmd_Parse
  rw [h1, Option.bind_some]
  dsimp only
  rw [h2, Option.bind_some]
  dsimp only [jn]
  rw [cplace_ok, Option.bind_some, if_neg hp, if_neg (by simp)]
  by_cases hr : c.verb = rebaseW
  · have hr' : c.verb = [114, 101, 98, 97, 115, 101] := hr
    have hd : (if lines = true then !decide (c.verb = [114, 101, 98, 97, 115, 101]) else false) = false := by cases lines <;> simp [hr']
    cases lines with
    | true => 
      rw [if_pos rfl, decide_eq_true hr', if_neg (by simp), if_pos hr', ht hr, Option.bind_some, if_pos (show ((l, Err.nil) : List TodoStep × Err).2.isNil = true from rfl)]
      exact hfin
    | false =>
      rw [if_neg (by simp), if_neg (by simp), if_pos hr', ht hr, Option.bind_some, if_pos (show ((l, Err.nil) : List TodoStep × Err).2.isNil = true from rfl)]
      exact hfin
  · have hr' : ¬ c.verb = [114, 101, 98, 97, 115, 101] := hr
    cases lines with
    | true => exact absurd (hx rfl) hr
    | false =>
      rw [if_neg (by simp), if_neg (by simp), if_neg hr', ← ht' hr]
      exact hfin
theorem check_nil {c : CmdCmdP} (hn : c.name.length ≤ 1000) (h : chkE c = 0) (hp : ¬ placeS c.verb < 0) : Sh.cmd_Check c = some .nil := by
  rw [ccheck_ok (by omega), if_neg hp, if_pos h]
theorem rcheck_nil {c : CmdCmdP} (hi : I64 c.n) (ht : c.text.length ≤ 1000) (hl : ∀ x ∈ c.todo, x.text.length ≤ 1000) (h : chkE c = 0) (hp : ¬ placeS c.verb < 0) : Sh.rectoref17_CheckCmd (toC c) = some ⟨[], 0⟩ := by
  rw [rcheck17_ok hi (by omega) (fun x hx => by have := hl x hx; omega), if_neg hp, if_pos h]
theorem both_words {c d : CmdCmdP} {r : Str} {ws : List Str} (e1 : sayS c = d.verb ++ 32 :: r) (v32 : (32 : UInt8) ∉ d.verb) (v10 : (10 : UInt8) ∉ d.verb) (r10 : (10 : UInt8) ∉ r) (h1 : d.verb ≠ commitW) (h2 : d.verb ≠ stashW) (h3 : d.verb ≠ rebaseW)
    (hl : d.verb.length + r.length ≤ 100000) (hs : spl 32 r = ws) (hw : Sh.cmd_words (bareC d.verb) ws = some (true, d)) (hp : ¬ placeS d.verb < 0) (hN : Sh.cmd_Check d = some .nil) (hH : ∀ k bad, hearB d.verb r [] true k bad ws = some (toC d, ⟨[], 0⟩)) :
    Sh.cmd_Parse (sayS c) = some (d, .nil) ∧ Sh.rectoref17_Hear (sayS c) = some (toC d, ⟨[], 0⟩) := by
  have s10 : (10 : UInt8) ∉ d.verb ++ 32 :: r := by
    rw [List.mem_append, List.mem_cons]
    rintro (q | q | q)
    · exact v10 q
    · exact absurd q (by decide)
    · exact r10 q
  have hlen : (d.verb ++ 32 :: r).length ≤ 100001 := by simp; omega
  rw [e1]
  constructor
  · exact parse_gen (l := d.todo) (cutc_no s10) (read_gen (cutc_at r v32 (by omega)) h1 h2 ((split_ok 32 (by omega)).trans (congrArg some hs)) hw) hp (fun h => (by cases h)) (fun h => absurd h h3) (fun _ => rfl) hN
  · rw [hear_gen (rcut_no s10 (by omega) (by decide)) (rcut_at (k := 32) r v32 (by omega) (by decide)) (rplace_ok d.verb) hp (fun _ => (rfields_ok (by omega)).trans (congrArg some hs)) (fun h => (by cases h)) (fun _ => rfl)]
    exact hH _ _
theorem both_alone {c d : CmdCmdP} (e1 : sayS c = d.verb) (v32 : (32 : UInt8) ∉ d.verb) (v10 : (10 : UInt8) ∉ d.verb) (h1 : d.verb ≠ commitW) (h2 : d.verb ≠ stashW) (h3 : d.verb ≠ rebaseW)
    (hl : d.verb.length ≤ 100000) (hw : Sh.cmd_words (bareC d.verb) [] = some (true, d)) (hp : ¬ placeS d.verb < 0) (hN : Sh.cmd_Check d = some .nil) (hH : ∀ k bad, hearB d.verb [] [] false k bad [] = some (toC d, ⟨[], 0⟩)) :
    Sh.cmd_Parse (sayS c) = some (d, .nil) ∧ Sh.rectoref17_Hear (sayS c) = some (toC d, ⟨[], 0⟩) := by
  rw [e1]
  constructor
  · exact parse_gen (l := d.todo) (cutc_no v10) (read_alone v32 h1 h2 hw) hp (fun h => (by cases h)) (fun h => absurd h h3) (fun _ => rfl) hN
  · rw [hear_gen (ws := []) (rcut_no v10 (by omega) (by decide)) (rcut_no (k := 32) v32 (by omega) (by decide)) (rplace_ok d.verb) hp (fun h => (by cases h)) (fun _ => rfl) (fun _ => rfl)]
    exact hH _ _
theorem both_text {c d : CmdCmdP} (hv : d.verb = commitW ∨ d.verb = stashW) (ed : d = ⟨d.verb, [], 0, d.text, false, []⟩) (e1 : sayS c = d.verb ++ if d.text = [] then [] else 32 :: d.text) (v32 : (32 : UInt8) ∉ d.verb) (v10 : (10 : UInt8) ∉ d.verb) (t10 : (10 : UInt8) ∉ d.text)
    (hl : d.verb.length + d.text.length ≤ 100000) (hp : ¬ placeS d.verb < 0) (hN : Sh.cmd_Check d = some .nil) (hR : Sh.rectoref17_CheckCmd (toC d) = some ⟨[], 0⟩) :
    Sh.cmd_Parse (sayS c) = some (d, .nil) ∧ Sh.rectoref17_Hear (sayS c) = some (toC d, ⟨[], 0⟩) := by
  obtain ⟨v, n, i, t, f, td⟩ := d
  simp only [CmdCmdP.mk.injEq, true_and] at ed
  obtain ⟨rfl, rfl, rfl, rfl⟩ := ed
  dsimp only at *
  have h3 : v ≠ rebaseW := by rcases hv with rfl | rfl <;> decide
  have hv' : ∀ m : Bool, m = true ∨ m = false := by decide
  by_cases ht : t = []
  · subst ht
    rw [if_pos rfl, List.append_nil] at e1
    rw [e1]
    have hrd : Sh.cmd_read v = some (⟨v, [], 0, [], false, []⟩, true) := by
      unfold Sh.cmd_read
      rw [cutc_no v32, Option.bind_some]
      rcases hv with rfl | rfl <;> simp [jn, commitW, stashW]
    constructor
    · exact parse_gen (l := []) (cutc_no v10) hrd hp (fun h => (by cases h)) (fun h => absurd h h3) (fun _ => rfl) hN
    · rw [hear_gen (ws := []) (rcut_no v10 (by omega) (by decide)) (rcut_no (k := 32) v32 (by omega) (by decide)) (rplace_ok v) hp (fun h => (by cases h)) (fun _ => rfl) (fun _ => rfl)]
      exact hearB_text hv (fun h => (by cases h)) hR
  · rw [if_neg ht] at e1
    rw [e1]
    have s10 : (10 : UInt8) ∉ v ++ 32 :: t := by
      rw [List.mem_append, List.mem_cons]
      rintro (q | q | q)
      · exact v10 q
      · exact absurd q (by decide)
      · exact t10 q
    have hlen : (v ++ 32 :: t).length ≤ 100001 := by simp; omega
    have hrd : Sh.cmd_read (v ++ 32 :: t) = some (⟨v, [], 0, t, false, []⟩, true) := by
      unfold Sh.cmd_read
      rw [cutc_at t v32 (by omega), Option.bind_some]
      rcases hv with rfl | rfl <;> simp [jn, commitW, stashW, ht]
    constructor
    · exact parse_gen (l := []) (cutc_no s10) hrd hp (fun h => (by cases h)) (fun h => absurd h h3) (fun _ => rfl) hN
    · rw [hear_gen (rcut_no s10 (by omega) (by decide)) (rcut_at (k := 32) t v32 (by omega) (by decide)) (rplace_ok v) hp (fun _ => rfields_ok (by omega)) (fun h => (by cases h)) (fun _ => rfl)]
      exact hearB_text hv (fun _ => ht) hR
theorem both_rebase {c d : CmdCmdP} {r b : Str} (hv : d.verb = rebaseW) (ed : d = ⟨d.verb, [], d.n, [], false, d.todo⟩) (e1 : sayS c = rebaseW ++ 32 :: (r ++ 10 :: b)) (r32 : (32 : UInt8) ∉ r) (r10 : (10 : UInt8) ∉ r) (hl : r.length + b.length ≤ 10000000) (hk : Sh.cmd_count r = some (d.n, true)) (hk' : Sh.rectoref17_Number r = some d.n) (h0 : ¬ d.n < 0)
    (hb : Sh.todo_Parse b = some (d.todo, .nil)) (hb' : Sh.rectoref17_Parse b = some (d.todo.map toR, ⟨[], 0⟩)) (hN : Sh.cmd_Check d = some .nil) (hR : Sh.rectoref17_CheckCmd (toC d) = some ⟨[], 0⟩) :
    Sh.cmd_Parse (sayS c) = some (d, .nil) ∧ Sh.rectoref17_Hear (sayS c) = some (toC d, ⟨[], 0⟩) := by
  obtain ⟨v, n, i, t, f, td⟩ := d
  simp only [CmdCmdP.mk.injEq, true_and, and_true] at ed
  obtain ⟨rfl, rfl, rfl⟩ := ed
  dsimp only at *
  subst hv
  have hr32 : (32 : UInt8) ∉ rebaseW := by decide
  have s10 : (10 : UInt8) ∉ rebaseW ++ 32 :: r := by
    rw [List.mem_append, List.mem_cons]
    rintro (q | q | q)
    · exact absurd q (by decide)
    · exact absurd q (by decide)
    · exact r10 q
  have hlv : rebaseW.length = 6 := rfl
  have hlen : (rebaseW ++ 32 :: r).length = r.length + 7 := by simp [hlv]; omega
  have es : rebaseW ++ 32 :: (r ++ 10 :: b) = (rebaseW ++ 32 :: r) ++ 10 :: b := by simp
  have hp : ¬ placeS rebaseW < 0 := by decide
  have hsp : spl 32 r = [r] := spl_no r32
  rw [e1, es]
  constructor
  · exact parse_gen (l := td) (cutc_at b s10 (by omega)) (read_gen (cutc_at r hr32 (by omega)) (by decide) (by decide) ((split_ok 32 (by omega)).trans (congrArg some hsp)) (words_num (by simp) hk)) hp (fun _ => rfl) (fun _ => hb) (fun h => absurd rfl h) hN
  · rw [hear_gen (rcut_at (k := 10) b s10 (by omega) (by decide)) (rcut_at (k := 32) r hr32 (by omega) (by decide)) (rplace_ok rebaseW) hp (fun _ => (rfields_ok (by omega)).trans (congrArg some hsp)) (fun h => (by cases h)) (fun h => absurd rfl h)]
    exact hearB_rebase hk' h0 hb' hR
end Go.S
end

section
namespace Go.S
open Go
structure VF (v : Str) : Prop where
  a : (32 : UInt8) ∉ v
  b : (10 : UInt8) ∉ v
  l : v.length ≤ 8
  p : ¬ placeS v < 0
theorem vf_all : ∀ v ∈ verbsC, (32 : UInt8) ∉ v ∧ (10 : UInt8) ∉ v ∧ v.length ≤ 8 ∧ ¬ placeS v < 0 := by decide
theorem vf {v : Str} (h : v ∈ verbsC) : VF v := ⟨(vf_all v h).1, (vf_all v h).2.1, (vf_all v h).2.2.1, (vf_all v h).2.2.2⟩
theorem ixS_mem (v : Str) : ∀ (l : List Str) (i : Int), 0 ≤ i → ¬ ixS v l i < 0 → v ∈ l
  | [], i, _, h => absurd (by unfold ixS; omega) h
  | x :: r, i, h0, h => by
    unfold ixS at h
    by_cases q : x = v
    · rw [q]; exact List.mem_cons_self ..
    · rw [if_neg q] at h
      exact List.mem_cons_of_mem _ (ixS_mem v r (i + 1) (by omega) h)
theorem place_mem {v : Str} (h : ¬ placeS v < 0) : v ∈ verbsC := ixS_mem v verbsC 0 (by omega) h
structure Hd (c : CmdCmdP) : Prop where
  s : Sm c
  e : chkE c = 0
  m : c.verb ∈ verbsC
  k : c.n ≤ 1000000
theorem Hd.nil {c : CmdCmdP} (h : Hd c) : Sh.cmd_Check (normC c) = some .nil := by
  refine check_nil ?_ (chk_norm h.e) (vf h.m).p
  have := h.s.n
  show (if namedS c = true then c.name else []).length ≤ 1000
  split
  · exact this
  · simp
theorem Hd.rnil {c : CmdCmdP} (h : Hd c) : Sh.rectoref17_CheckCmd (toC (normC c)) = some ⟨[], 0⟩ := by
  refine rcheck_nil ?_ ?_ ?_ (chk_norm h.e) (vf h.m).p
  · show I64 (if numberedS c = true then c.n else 0)
    split
    · exact h.s.i
    · exact ⟨by omega, by omega⟩
  · have := h.s.t
    show (if toldS c = true then c.text else []).length ≤ 1000
    split
    · exact this
    · simp
  · show ∀ x ∈ (if c.verb = rebaseW then c.todo.map norm else []), x.text.length ≤ 1000
    split
    · intro x hx
      obtain ⟨y, hy, rfl⟩ := List.mem_map.1 hx
      have := (h.s.s y hy).2.1
      show (if y.verb = rewordW then y.text else []).length ≤ 1000
      split
      · exact this
      · simp
    · intro x hx; cases hx
theorem norm_eq {c : CmdCmdP} {A B T F : Bool} (a : namedS c = A) (b : numberedS c = B) (t : toldS c = T) (f : forcedS c = F) (r : c.verb ≠ rebaseW) : normC c = ⟨c.verb, if A = true then c.name else [], if B = true then c.n else 0, if T = true then c.text else [], F, []⟩ := by
  unfold normC
  rw [a, b, t, f, if_neg r]
theorem say_eq {c : CmdCmdP} {A B T F : Bool} (a : namedS c = A) (b : numberedS c = B) (t : toldS c = T) (f : forcedS c = F) (r : c.verb ≠ rebaseW) : sayS c = c.verb ++ ((if A = true then 32 :: c.name else []) ++ ((if B = true then 32 :: itoaS c.n else []) ++ ((if F = true then [32, 45, 102] else []) ++ (if T = true then 32 :: c.text else [])))) := by
  unfold sayS tailS
  rw [a, b, t, f, if_neg r, List.append_nil]
abbrev Back (c : CmdCmdP) : Prop := Sh.cmd_Parse (sayS c) = some (normC c, .nil) ∧ Sh.rectoref17_Hear (sayS c) = some (toC (normC c), ⟨[], 0⟩)
theorem itoa_no {n : Int} (h0 : 0 ≤ n) (h1 : n ≤ 1000000) : (32 : UInt8) ∉ itoaS n ∧ (10 : UInt8) ∉ itoaS n := by
  by_cases h : n = 0
  · subst h; decide +kernel
  · obtain ⟨_, _, c⟩ := itoa_facts (c := n) (by omega) h1
    exact ⟨(dig_not c).2, (dig_not c).1⟩
theorem back_name {c : CmdCmdP} (h : Hd c) (hv : c.verb = addW ∨ c.verb = branchW ∨ c.verb = deleteW ∨ c.verb = mergeW ∨ (c.verb = rmW ∧ c.force = false)) (hn : c.name ≠ []) (n32 : (32 : UInt8) ∉ c.name) (n10 : (10 : UInt8) ∉ c.name) : Back c := by
  have a : namedS c = true := by rcases hv with hv | hv | hv | hv | ⟨hv, _⟩ <;> simp [namedS, hv, hn]
  have b : numberedS c = false := by rcases hv with hv | hv | hv | hv | ⟨hv, _⟩ <;> simp [numberedS, hv, addW, rmW, commitW, branchW, deleteW, switchW, resetW, mergeW, pickW, revertW, stashW, popW, applyW, shelveW, rebaseW]
  have t : toldS c = false := by rcases hv with hv | hv | hv | hv | ⟨hv, _⟩ <;> simp [toldS, hv, addW, rmW, commitW, branchW, deleteW, switchW, resetW, mergeW, pickW, revertW, stashW, popW, applyW, shelveW, rebaseW]
  have f : forcedS c = false := by
    rcases hv with hv | hv | hv | hv | ⟨hv, hf⟩
    · simp [forcedS, hv, addW, rmW, commitW, branchW, deleteW, switchW, resetW, mergeW, pickW, revertW, stashW, popW, applyW, shelveW, rebaseW]
    · simp [forcedS, hv, addW, rmW, commitW, branchW, deleteW, switchW, resetW, mergeW, pickW, revertW, stashW, popW, applyW, shelveW, rebaseW]
    · simp [forcedS, hv, addW, rmW, commitW, branchW, deleteW, switchW, resetW, mergeW, pickW, revertW, stashW, popW, applyW, shelveW, rebaseW]
    · simp [forcedS, hv, addW, rmW, commitW, branchW, deleteW, switchW, resetW, mergeW, pickW, revertW, stashW, popW, applyW, shelveW, rebaseW]
    · simp [forcedS, hf]
  have hs : c.verb ≠ commitW ∧ c.verb ≠ stashW ∧ c.verb ≠ rebaseW := by rcases hv with hv | hv | hv | hv | ⟨hv, _⟩ <;> rw [hv] <;> decide
  have en : normC c = ⟨c.verb, c.name, 0, [], false, []⟩ := norm_eq a b t f hs.2.2
  have es : sayS c = c.verb ++ 32 :: c.name := by rw [say_eq a b t f hs.2.2]; simp
  have hN := h.nil
  have hR := h.rnil
  have hl := h.s.n
  have hl2 := (vf h.m).l
  unfold Back
  rw [en] at hN hR ⊢
  refine both_words (d := ⟨c.verb, c.name, 0, [], false, []⟩) es (vf h.m).a (vf h.m).b n10 hs.1 hs.2.1 hs.2.2 (by dsimp only; omega) (spl_no n32) ?_ (vf h.m).p hN fun k bad => hearB_name ?_ hn hR
  · rcases hv with hv | hv | hv | hv | ⟨hv, _⟩
    · exact words_name (.inl hv) hn
    · exact words_name (.inr (.inl hv)) hn
    · exact words_name (.inr (.inr (.inl hv))) hn
    · exact words_name (.inr (.inr (.inr hv))) hn
    · dsimp only; rw [hv]; exact words_rm hn
  · rcases hv with hv | hv | hv | hv | ⟨hv, _⟩ <;> simp [hv]
theorem spl_f {u : Str} (h : (32 : UInt8) ∉ u) : spl 32 (u ++ [32, 45, 102]) = [u, [45, 102]] := by
  rw [show u ++ [32, 45, 102] = u ++ 32 :: [45, 102] from rfl, spl_at _ h, spl_no (by decide)]
theorem back_rmf {c : CmdCmdP} (h : Hd c) (hv : c.verb = rmW) (hf : c.force = true) (hn : c.name ≠ []) (n32 : (32 : UInt8) ∉ c.name) (n10 : (10 : UInt8) ∉ c.name) : Back c := by
  have a : namedS c = true := by simp [namedS, hv, hn]
  have b : numberedS c = false := by simp [numberedS, hv, addW, rmW, commitW, branchW, deleteW, switchW, resetW, mergeW, pickW, revertW, stashW, popW, applyW, shelveW, rebaseW]
  have t : toldS c = false := by simp [toldS, hv, addW, rmW, commitW, branchW, deleteW, switchW, resetW, mergeW, pickW, revertW, stashW, popW, applyW, shelveW, rebaseW]
  have f : forcedS c = true := by simp [forcedS, hv, hf]
  have hs : c.verb ≠ commitW ∧ c.verb ≠ stashW ∧ c.verb ≠ rebaseW := by rw [hv]; decide
  have en : normC c = ⟨c.verb, c.name, 0, [], true, []⟩ := norm_eq a b t f hs.2.2
  have es : sayS c = c.verb ++ 32 :: (c.name ++ [32, 45, 102]) := by rw [say_eq a b t f hs.2.2]; simp
  have hN := h.nil
  have hR := h.rnil
  have hl := h.s.n
  have hl2 := (vf h.m).l
  unfold Back
  rw [en] at hN hR ⊢
  rw [hv] at hR
  refine both_words (d := ⟨c.verb, c.name, 0, [], true, []⟩) es (vf h.m).a (vf h.m).b ?_ hs.1 hs.2.1 hs.2.2 (by simp; omega) (spl_f n32) ?_ (vf h.m).p hN fun k bad => ?_
  · simp [n10]
  · dsimp only; rw [hv]; exact words_rmf hn
  · dsimp only; rw [hv]; exact hearB_rmf hn hR
theorem back_none {c : CmdCmdP} (h : Hd c) (hv : (c.verb = addW ∧ c.name = []) ∨ c.verb ∈ verbsC.drop 15) : Back c := by
  have hv' : (c.verb = addW ∧ c.name = []) ∨ c.verb ∈ [[99, 111, 110, 116, 105, 110, 117, 101], [115, 107, 105, 112], [97, 98, 111, 114, 116], [117, 110, 100, 111], [114, 101, 100, 111]] := hv
  simp only [List.mem_cons, List.not_mem_nil, or_false] at hv'
  have a : namedS c = false := by rcases hv' with ⟨hv, hn⟩ | hv | hv | hv | hv | hv <;> simp [namedS, *, addW, rmW, commitW, branchW, deleteW, switchW, resetW, mergeW, pickW, revertW, stashW, popW, applyW, shelveW, rebaseW]
  have b : numberedS c = false := by rcases hv' with ⟨hv, hn⟩ | hv | hv | hv | hv | hv <;> simp [numberedS, hv, addW, rmW, commitW, branchW, deleteW, switchW, resetW, mergeW, pickW, revertW, stashW, popW, applyW, shelveW, rebaseW]
  have t : toldS c = false := by rcases hv' with ⟨hv, hn⟩ | hv | hv | hv | hv | hv <;> simp [toldS, hv, addW, rmW, commitW, branchW, deleteW, switchW, resetW, mergeW, pickW, revertW, stashW, popW, applyW, shelveW, rebaseW]
  have f : forcedS c = false := by rcases hv' with ⟨hv, hn⟩ | hv | hv | hv | hv | hv <;> simp [forcedS, hv, addW, rmW, commitW, branchW, deleteW, switchW, resetW, mergeW, pickW, revertW, stashW, popW, applyW, shelveW, rebaseW]
  have hs : c.verb ≠ commitW ∧ c.verb ≠ stashW ∧ c.verb ≠ rebaseW := by rcases hv' with ⟨hv, hn⟩ | hv | hv | hv | hv | hv <;> rw [hv] <;> decide
  have en : normC c = ⟨c.verb, [], 0, [], false, []⟩ := norm_eq a b t f hs.2.2
  have es : sayS c = c.verb := by rw [say_eq a b t f hs.2.2]; simp
  have hN := h.nil
  have hR := h.rnil
  have hl2 := (vf h.m).l
  have hw : c.verb = addW ∨ c.verb ∈ verbsC.drop 15 := by
    rcases hv with ⟨q, _⟩ | q
    · exact .inl q
    · exact .inr q
  unfold Back
  rw [en] at hN hR ⊢
  exact both_alone (d := ⟨c.verb, [], 0, [], false, []⟩) es (vf h.m).a (vf h.m).b hs.1 hs.2.1 hs.2.2 (by dsimp only; omega) (words_none hw) (vf h.m).p hN fun k bad => hearB_none hw hR
theorem back_num {c : CmdCmdP} (h : Hd c) (hv : c.verb = pickW ∨ c.verb = revertW ∨ c.verb = popW ∨ c.verb = applyW ∨ c.verb = shelveW) (h0 : 0 ≤ c.n) : Back c := by
  have a : namedS c = false := by rcases hv with hv | hv | hv | hv | hv <;> simp [namedS, hv, addW, rmW, commitW, branchW, deleteW, switchW, resetW, mergeW, pickW, revertW, stashW, popW, applyW, shelveW, rebaseW]
  have b : numberedS c = true := by rcases hv with hv | hv | hv | hv | hv <;> simp [numberedS, hv]
  have t : toldS c = false := by rcases hv with hv | hv | hv | hv | hv <;> simp [toldS, hv, addW, rmW, commitW, branchW, deleteW, switchW, resetW, mergeW, pickW, revertW, stashW, popW, applyW, shelveW, rebaseW]
  have f : forcedS c = false := by rcases hv with hv | hv | hv | hv | hv <;> simp [forcedS, hv, addW, rmW, commitW, branchW, deleteW, switchW, resetW, mergeW, pickW, revertW, stashW, popW, applyW, shelveW, rebaseW]
  have hs : c.verb ≠ commitW ∧ c.verb ≠ stashW ∧ c.verb ≠ rebaseW := by rcases hv with hv | hv | hv | hv | hv <;> rw [hv] <;> decide
  have en : normC c = ⟨c.verb, [], c.n, [], false, []⟩ := norm_eq a b t f hs.2.2
  have es : sayS c = c.verb ++ 32 :: itoaS c.n := by rw [say_eq a b t f hs.2.2]; simp
  have hN := h.nil
  have hR := h.rnil
  have hl := itoaS_len c.n
  have hl2 := (vf h.m).l
  obtain ⟨n32, n10⟩ := itoa_no h0 h.k
  unfold Back
  rw [en] at hN hR ⊢
  refine both_words (d := ⟨c.verb, [], c.n, [], false, []⟩) es (vf h.m).a (vf h.m).b n10 hs.1 hs.2.1 hs.2.2 (by dsimp only; omega) (spl_no n32) (words_num ?_ (count_itoa h0 h.k)) (vf h.m).p hN fun k bad => hearB_num hv (rnum_itoa h0 h.k) (Int.not_lt.2 h0) hR
  rcases hv with hv | hv | hv | hv | hv <;> simp [hv]
theorem back_reset {c : CmdCmdP} (h : Hd c) (hv : c.verb = resetW) (hn : c.name ≠ []) (n32 : (32 : UInt8) ∉ c.name) (n10 : (10 : UInt8) ∉ c.name) (h0 : 0 ≤ c.n) : Back c := by
  have a : namedS c = true := by simp [namedS, hv, hn]
  have b : numberedS c = true := by simp [numberedS, hv]
  have t : toldS c = false := by simp [toldS, hv, addW, rmW, commitW, branchW, deleteW, switchW, resetW, mergeW, pickW, revertW, stashW, popW, applyW, shelveW, rebaseW]
  have f : forcedS c = false := by simp [forcedS, hv, addW, rmW, commitW, branchW, deleteW, switchW, resetW, mergeW, pickW, revertW, stashW, popW, applyW, shelveW, rebaseW]
  have hs : c.verb ≠ commitW ∧ c.verb ≠ stashW ∧ c.verb ≠ rebaseW := by rw [hv]; decide
  have en : normC c = ⟨c.verb, c.name, c.n, [], false, []⟩ := norm_eq a b t f hs.2.2
  have es : sayS c = c.verb ++ 32 :: (c.name ++ 32 :: itoaS c.n) := by rw [say_eq a b t f hs.2.2]; simp
  have hN := h.nil
  have hR := h.rnil
  have hl := h.s.n
  have hl1 := itoaS_len c.n
  have hl2 := (vf h.m).l
  obtain ⟨i32, i10⟩ := itoa_no h0 h.k
  unfold Back
  rw [en] at hN hR ⊢
  rw [hv] at hR
  refine both_words (d := ⟨c.verb, c.name, c.n, [], false, []⟩) es (vf h.m).a (vf h.m).b ?_ hs.1 hs.2.1 hs.2.2 (by simp; omega) ((spl_at _ n32).trans (congrArg _ (spl_no i32))) ?_ (vf h.m).p hN fun k bad => ?_
  · simp [n10, i10]
  · dsimp only; rw [hv]; exact words_reset hn (count_itoa h0 h.k)
  · dsimp only; rw [hv]; exact hearB_reset hn (rnum_itoa h0 h.k) (Int.not_lt.2 h0) hR
theorem az_no {z : UInt8} (h : az z = true) : ¬ ((48 : Int) ≤ z.toNat ∧ (z.toNat : Int) ≤ 57) := by
  unfold az at h
  rw [Bool.and_eq_true] at h
  have := of_decide_eq_true h.1
  omega
theorem back_sw {c : CmdCmdP} (h : Hd c) (hv : c.verb = switchW) (hg : goodS c.name = true) : Back c := by
  obtain ⟨hn, n32, n10, hl, z, u, e, hz⟩ := goodS_facts hg
  have a : namedS c = true := by simp [namedS, hv, hn]
  have b : numberedS c = false := by simp [numberedS, hv, hn, addW, rmW, commitW, branchW, deleteW, switchW, resetW, mergeW, pickW, revertW, stashW, popW, applyW, shelveW, rebaseW]
  have t : toldS c = false := by simp [toldS, hv, addW, rmW, commitW, branchW, deleteW, switchW, resetW, mergeW, pickW, revertW, stashW, popW, applyW, shelveW, rebaseW]
  have hs : c.verb ≠ commitW ∧ c.verb ≠ stashW ∧ c.verb ≠ rebaseW := by rw [hv]; decide
  have hN := h.nil
  have hR := h.rnil
  have hl2 := (vf h.m).l
  have hd : Sh.cmd_digit c.name = some false := by rw [e]; exact digit_az hz
  unfold Back
  cases hf : c.force with
  | false =>
    have f : forcedS c = false := by simp [forcedS, hf]
    have en : normC c = ⟨c.verb, c.name, 0, [], false, []⟩ := norm_eq a b t f hs.2.2
    have es : sayS c = c.verb ++ 32 :: c.name := by rw [say_eq a b t f hs.2.2]; simp
    rw [en] at hN hR ⊢
    rw [hv] at hR
    refine both_words (d := ⟨c.verb, c.name, 0, [], false, []⟩) es (vf h.m).a (vf h.m).b n10 hs.1 hs.2.1 hs.2.2 (by dsimp only; omega) (spl_no n32) ?_ (vf h.m).p hN fun k bad => ?_
    · dsimp only; rw [hv]; exact words_sw hn hd
    · dsimp only; rw [hv]; rw [e] at hR ⊢; exact hearB_sw (az_no hz) hR
  | true =>
    have f : forcedS c = true := by simp [forcedS, hv, hf]
    have en : normC c = ⟨c.verb, c.name, 0, [], true, []⟩ := norm_eq a b t f hs.2.2
    have es : sayS c = c.verb ++ 32 :: (c.name ++ [32, 45, 102]) := by rw [say_eq a b t f hs.2.2]; simp
    rw [en] at hN hR ⊢
    rw [hv] at hR
    refine both_words (d := ⟨c.verb, c.name, 0, [], true, []⟩) es (vf h.m).a (vf h.m).b ?_ hs.1 hs.2.1 hs.2.2 (by simp; omega) (spl_f n32) ?_ (vf h.m).p hN fun k bad => ?_
    · simp [n10]
    · dsimp only; rw [hv]; exact words_swf hn hd
    · dsimp only; rw [hv]; rw [e] at hR ⊢; exact hearB_swf (az_no hz) hR
theorem itoa_z {n : Int} (h0 : 0 ≤ n) (h1 : n ≤ 1000000) : ∃ z u, itoaS n = z :: u ∧ (48 : Int) ≤ z.toNat ∧ (z.toNat : Int) ≤ 57 := by
  by_cases h : n = 0
  · subst h; exact ⟨48, [], by decide +kernel, by decide, by decide⟩
  · obtain ⟨a, _, hd⟩ := itoa_facts (c := n) (by omega) h1
    have hl := a.1
    cases e : itoaS n with
    | nil => rw [e] at hl; simp at hl
    | cons z r => exact ⟨z, r, rfl, (hd z (by rw [e]; exact List.mem_cons_self ..)).1, (hd z (by rw [e]; exact List.mem_cons_self ..)).2⟩
theorem back_swn {c : CmdCmdP} (h : Hd c) (hv : c.verb = switchW) (hn : c.name = []) (h0 : 0 ≤ c.n) : Back c := by
  obtain ⟨n32, n10⟩ := itoa_no h0 h.k
  obtain ⟨z, u, e, z1, z2⟩ := itoa_z h0 h.k
  have a : namedS c = false := by simp [namedS, hn]
  have b : numberedS c = true := by simp [numberedS, hv, hn]
  have t : toldS c = false := by simp [toldS, hv, addW, rmW, commitW, branchW, deleteW, switchW, resetW, mergeW, pickW, revertW, stashW, popW, applyW, shelveW, rebaseW]
  have hs : c.verb ≠ commitW ∧ c.verb ≠ stashW ∧ c.verb ≠ rebaseW := by rw [hv]; decide
  have hN := h.nil
  have hR := h.rnil
  have hl := itoaS_len c.n
  have hl2 := (vf h.m).l
  have hd := digit_itoa h0 h.k
  have hr := rnum_itoa h0 h.k
  unfold Back
  cases hf : c.force with
  | false =>
    have f : forcedS c = false := by simp [forcedS, hf]
    have en : normC c = ⟨c.verb, [], c.n, [], false, []⟩ := norm_eq a b t f hs.2.2
    have es : sayS c = c.verb ++ 32 :: itoaS c.n := by rw [say_eq a b t f hs.2.2]; simp
    rw [en] at hN hR ⊢
    rw [hv] at hR
    refine both_words (d := ⟨c.verb, [], c.n, [], false, []⟩) es (vf h.m).a (vf h.m).b n10 hs.1 hs.2.1 hs.2.2 (by dsimp only; omega) (spl_no n32) ?_ (vf h.m).p hN fun k bad => ?_
    · dsimp only; rw [hv]; exact words_swn hd (count_itoa h0 h.k)
    · dsimp only; rw [hv]; rw [e] at hr ⊢; exact hearB_swn z1 z2 hr (Int.not_lt.2 h0) hR
  | true =>
    have f : forcedS c = true := by simp [forcedS, hv, hf]
    have en : normC c = ⟨c.verb, [], c.n, [], true, []⟩ := norm_eq a b t f hs.2.2
    have es : sayS c = c.verb ++ 32 :: (itoaS c.n ++ [32, 45, 102]) := by rw [say_eq a b t f hs.2.2]; simp
    rw [en] at hN hR ⊢
    rw [hv] at hR
    refine both_words (d := ⟨c.verb, [], c.n, [], true, []⟩) es (vf h.m).a (vf h.m).b ?_ hs.1 hs.2.1 hs.2.2 (by simp; omega) (spl_f n32) ?_ (vf h.m).p hN fun k bad => ?_
    · simp [n10]
    · dsimp only; rw [hv]; exact words_swnf hd (count_itoa h0 h.k)
    · dsimp only; rw [hv]; rw [e] at hr ⊢; exact hearB_swnf z1 z2 hr (Int.not_lt.2 h0) hR
theorem back_text {c : CmdCmdP} (h : Hd c) (hv : c.verb = commitW ∨ c.verb = stashW) (t10 : (10 : UInt8) ∉ c.text) : Back c := by
  have a : namedS c = false := by rcases hv with hv | hv <;> simp [namedS, hv, addW, rmW, commitW, branchW, deleteW, switchW, resetW, mergeW, pickW, revertW, stashW, popW, applyW, shelveW, rebaseW]
  have b : numberedS c = false := by rcases hv with hv | hv <;> simp [numberedS, hv, addW, rmW, commitW, branchW, deleteW, switchW, resetW, mergeW, pickW, revertW, stashW, popW, applyW, shelveW, rebaseW]
  have f : forcedS c = false := by rcases hv with hv | hv <;> simp [forcedS, hv, addW, rmW, commitW, branchW, deleteW, switchW, resetW, mergeW, pickW, revertW, stashW, popW, applyW, shelveW, rebaseW]
  have t : toldS c = !decide (c.text = []) := by rcases hv with hv | hv <;> simp [toldS, hv]
  have r : c.verb ≠ rebaseW := by rcases hv with hv | hv <;> rw [hv] <;> decide
  have en : normC c = ⟨c.verb, [], 0, c.text, false, []⟩ := by
    rw [norm_eq a b t f r]
    by_cases q : c.text = [] <;> simp [q]
  have es : sayS c = c.verb ++ if c.text = [] then [] else 32 :: c.text := by
    rw [say_eq a b t f r]
    by_cases q : c.text = [] <;> simp [q]
  have hN := h.nil
  have hR := h.rnil
  have hl := h.s.t
  have hl2 := (vf h.m).l
  unfold Back
  rw [en] at hN hR ⊢
  exact both_text (d := ⟨c.verb, [], 0, c.text, false, []⟩) hv rfl es (vf h.m).a (vf h.m).b t10 (by dsimp only; omega) (vf h.m).p hN hR
end Go.S
end

section
namespace Go.S
open Go
theorem rsame22_ok (a b : Rectoref17CmdP) (hb : (a.todo.length : Int) ≤ 1000000000) : Sh.rectoref17_Same a b = some (decide (a = b)) := by
  apply Ok.eq
  unfold Sh.rectoref17_Same
  refine ok_jnP (fun x => x = false ∧ a.verb = b.verb ∧ a.name = b.name ∧ a.n = b.n ∧ a.text = b.text ∧ a.force = b.force ∧ (a.todo.length : Int) = b.todo.length ∨ x = true ∧ a ≠ b) ?_ ?_
  · rintro x (⟨rfl, h1, h2, h3, h4, h5, h6⟩ | ⟨rfl, h⟩)
    · rw [if_neg (by simp)]
      refine Ok.of (eqloop (fun z w => z.verb = w.verb ∧ z.commit = w.commit ∧ z.text = w.text) (fun z w => by cases z; cases w; simp) a.todo b.todo h6 hb _ fun i => rfl) ?_
      obtain ⟨a1, a2, a3, a4, a5, a6⟩ := a
      obtain ⟨b1, b2, b3, b4, b5, b6⟩ := b
      simp_all
    · rw [if_pos rfl, ok_some]
      exact (decide_eq_false h).symm
  · intro K hK
    have no : a ≠ b → Ok (K true) _ := fun h => hK true (.inr ⟨rfl, h⟩)
    simp only [ok_if]
    refine ⟨fun h1 => ⟨fun h2 => ⟨fun h3 => ⟨fun h4 => ⟨fun h5 => ?_, fun h => no fun e => h (by rw [e])⟩, fun h => no fun e => h (by rw [e])⟩, fun h => no fun e => h (by rw [e])⟩, fun h => no fun e => h (by rw [e])⟩, fun h => no fun e => h (by rw [e])⟩
    by_cases h6 : (a.todo.length : Int) = b.todo.length
    · exact hK _ (.inl ⟨by simp [h6], h1, h2, h3, h4, h5, h6⟩)
    · exact hK _ (.inr ⟨by simp [h6], fun e => h6 (by rw [e])⟩)
theorem few22_ok (c : CmdCmdP) : Ok (Sh.rectolaw22_Few c) fun b => b = true → c.todo.length ≤ 40 ∧ c.verb.length ≤ 50 ∧ c.name.length ≤ 100 ∧ c.text.length ≤ 400 ∧ ∀ x ∈ c.todo, x.text.length ≤ 400 ∧ x.verb.length ≤ 50 := by
  unfold Sh.rectolaw22_Few
  refine ok_jnP (fun x => x = false → c.todo.length ≤ 40 ∧ c.verb.length ≤ 50 ∧ c.name.length ≤ 100 ∧ c.text.length ≤ 400) ?_ ?_
  · intro x hx
    simp only [ok_if, ok_some]
    refine ⟨fun _ h => (by cases h), fun hxf => ?_⟩
    obtain ⟨h1, h2, h3, h4⟩ := hx (by simpa using hxf)
    refine ok_iter (I := fun i => 0 ≤ i ∧ i ≤ c.todo.length ∧ ∀ x ∈ c.todo.take i.toNat, x.text.length ≤ 400 ∧ x.verb.length ≤ 50) (μ := fun i => (c.todo.length - i).toNat) ?_ ⟨by omega, by omega, by simp⟩
    rintro i ⟨i0, i1, i2⟩
    simp only [ok_if, ok_up, ok_some]
    refine ⟨fun hi => ?_, fun hi => ?_⟩
    · obtain ⟨z, hz⟩ := at_get (l := c.todo) i0 hi
      refine ok_jnP (fun b => b = false → z.text.length ≤ 400 ∧ z.verb.length ≤ 50) ?_ ?_
      · intro b hb
        simp only [ok_if, ok_up, ok_gd, ok_go, ok_some]
        refine ⟨fun _ h => (by cases h), fun hbf => ⟨⟨by omega, by omega⟩, ⟨by omega, by omega, fun y hy => ?_⟩, by omega⟩⟩
        rw [take_snoc i0 hz] at hy
        rcases List.mem_append.1 hy with q | q
        · exact i2 y q
        · rw [List.mem_singleton.1 q]; exact hb (by simpa using hbf)
      · intro K hK
        simp only [ok_bd, ok_at, ok_if]
        refine ⟨i0, z, hz, fun _ => hK _ fun h => (by cases h), fun h => ⟨i0, z, hz, hK _ fun h2 => ?_⟩⟩
        have := of_decide_eq_false h2
        omega
    · rw [List.take_of_length_le (by omega)] at i2
      exact fun _ => ⟨h1, h2, h3, h4, i2⟩
  · intro K hK
    simp only [ok_if]
    refine ⟨fun _ => hK _ fun h => (by cases h), fun h1 => ⟨fun _ => hK _ fun h => (by cases h), fun h2 => ⟨fun _ => hK _ fun h => (by cases h), fun h3 => hK _ fun h4 => ?_⟩⟩⟩
    have := of_decide_eq_false h4
    omega
theorem texts22 : Sh.rectolaw1_Texts verbsC verbsC = some true := by decide +kernel
theorem steps_good {l : List TodoStep} (h : stepsE l = 0) : l.length ≤ 32 ∧ ∀ x ∈ l, Good21 x := by
  unfold stepsE at h
  by_cases q : 32 < l.length
  · rw [if_pos q] at h; exact absurd h (by decide)
  · rw [if_neg q] at h
    refine ⟨by omega, ?_⟩
    clear q
    induction l with
    | nil => intro x hx; cases hx
    | cons y r ih =>
      unfold firstE at h
      by_cases hy : stepE y = 0
      · rw [if_pos hy] at h
        intro x hx
        rcases List.mem_cons.1 hx with rfl | q
        · unfold stepE at hy
          by_cases v : isV x.verb = false
          · rw [if_pos v] at hy; exact absurd hy (by decide)
          · rw [if_neg v] at hy
            by_cases k : x.commit < 1 ∨ 1000000 < x.commit
            · rw [if_pos k] at hy; exact absurd hy (by decide)
            · rw [if_neg k] at hy
              refine ⟨by simpa using v, by omega, by omega, fun e => ?_⟩
              rw [if_pos e] at hy
              unfold textE at hy
              by_cases t1 : 256 < x.text.length
              · rw [if_pos t1] at hy; exact absurd hy (by decide)
              · rw [if_neg t1] at hy
                by_cases t2 : x.text = []
                · rw [if_pos ⟨rfl, t2⟩] at hy; exact absurd hy (by decide)
                · rw [if_neg (fun q => t2 q.2)] at hy
                  by_cases t3 : (10 : UInt8) ∈ x.text
                  · rw [if_pos t3] at hy; exact absurd hy (by decide)
                  · exact ⟨t2, by omega, t3⟩
        · exact ih h x q
      · rw [if_neg hy] at h; exact absurd h hy
theorem back_rebase {c : CmdCmdP} (h : Hd c) (hv : c.verb = rebaseW) (h0 : 0 ≤ c.n) (hg : ∀ x ∈ c.todo, Good21 x) (hl : c.todo.length ≤ 32) : Back c := by
  have a : namedS c = false := by simp [namedS, hv, addW, rmW, commitW, branchW, deleteW, switchW, resetW, mergeW, pickW, revertW, stashW, popW, applyW, shelveW, rebaseW]
  have b : numberedS c = true := by simp [numberedS, hv]
  have t : toldS c = false := by simp [toldS, hv, addW, rmW, commitW, branchW, deleteW, switchW, resetW, mergeW, pickW, revertW, stashW, popW, applyW, shelveW, rebaseW]
  have f : forcedS c = false := by simp [forcedS, hv, addW, rmW, commitW, branchW, deleteW, switchW, resetW, mergeW, pickW, revertW, stashW, popW, applyW, shelveW, rebaseW]
  have en : normC c = ⟨c.verb, [], c.n, [], false, c.todo.map norm⟩ := by
    unfold normC
    rw [a, b, t, f, if_pos hv]; rfl
  have es : sayS c = rebaseW ++ 32 :: (itoaS c.n ++ 10 :: textS c.todo) := by
    unfold sayS tailS
    rw [a, b, t, f, if_pos hv, hv]; simp
  have hN := h.nil
  have hR := h.rnil
  have hT := textS_len h.s.s
  have hI := itoaS_len c.n
  obtain ⟨n32, n10⟩ := itoa_no h0 h.k
  unfold Back
  rw [en] at hN hR ⊢
  refine both_rebase (d := ⟨c.verb, [], c.n, [], false, c.todo.map norm⟩) hv rfl es n32 n10 (by omega) (count_itoa h0 h.k) (rnum_itoa h0 h.k) (by dsimp only; omega) ?_ ?_ hN hR
  · rw [parse_ok (by omega), back_ok hg hl]; rfl
  · rw [rparse_ok (by omega), back_ok hg hl]; rfl
theorem five {b : Prop} [Decidable b] {x : Int} (hx : x ≠ 0) (h : (if b then 0 else x) = 0) : b := by
  by_cases q : b
  · exact q
  · rw [if_neg q] at h; exact absurd h hx
theorem one0 {b : Prop} [Decidable b] (h : (if b then (1 : Int) else 0) = 0) : ¬ b := by
  intro q
  rw [if_pos q] at h; exact absurd h (by decide)
theorem text_10 {s : Str} {m : Bool} (h : textE s m = 0) : (10 : UInt8) ∉ s := by
  unfold textE at h
  intro q
  by_cases t1 : 256 < s.length
  · rw [if_pos t1] at h; exact absurd h (by decide)
  · rw [if_neg t1] at h
    by_cases t2 : m = true ∧ s = []
    · rw [if_pos t2] at h; exact absurd h (by decide)
    · rw [if_neg t2, if_pos q] at h; exact absurd h (by decide)
theorem say_back {c : CmdCmdP} (h : Hd c) : Back c := by
  obtain ⟨h1, h2, h3⟩ := chk_parts h.e
  have hm := h.m
  have hm' : c.verb = addW ∨ c.verb = rmW ∨ (c.verb = commitW ∨ c.verb = stashW) ∨ (c.verb = branchW ∨ c.verb = deleteW ∨ c.verb = mergeW) ∨ c.verb = switchW ∨ c.verb = resetW ∨ (c.verb = pickW ∨ c.verb = revertW) ∨ (c.verb = popW ∨ c.verb = applyW ∨ c.verb = shelveW) ∨ c.verb = rebaseW ∨ c.verb ∈ verbsC.drop 15 := by
    have e : verbsC = [addW, rmW, commitW, branchW, deleteW, switchW, resetW, mergeW, pickW, revertW, stashW, popW, applyW, shelveW, rebaseW] ++ verbsC.drop 15 := rfl
    rw [e, List.mem_append] at hm
    rcases hm with hm | hm
    · simp only [List.mem_cons, List.not_mem_nil, or_false] at hm
      rcases hm with hm | hm | hm | hm | hm | hm | hm | hm | hm | hm | hm | hm | hm | hm | hm <;> simp [hm]
    · simp [hm]
  unfold nameS at h1
  unfold numS at h2
  rcases hm' with hv | hv | hv | hv | hv | hv | hv | hv | hv | hv
  · rw [if_pos hv] at h1
    by_cases hn : c.name = []
    · exact back_none h (.inl ⟨hv, hn⟩)
    · rw [if_neg hn] at h1
      obtain ⟨q1, q2, q3, _⟩ := checkP_facts h1
      exact back_name h (.inl hv) hn q2 q3
  · rw [if_neg (by rw [hv]; decide), if_pos hv] at h1
    obtain ⟨q1, q2, q3, _⟩ := checkP_facts h1
    cases hf : c.force with
    | false => exact back_name h (.inr (.inr (.inr (.inr ⟨hv, hf⟩)))) q1 q2 q3
    | true => exact back_rmf h hv hf q1 q2 q3
  · unfold moreS at h3
    rw [if_pos hv] at h3
    exact back_text h hv (text_10 h3)
  · rw [if_neg (by rcases hv with hv | hv | hv <;> rw [hv] <;> decide), if_neg (by rcases hv with hv | hv | hv <;> rw [hv] <;> decide), if_pos hv] at h1
    obtain ⟨q1, q2, q3, _⟩ := goodS_facts (five (by decide) h1)
    exact back_name h (by rcases hv with hv | hv | hv <;> simp [hv]) q1 q2 q3
  · rw [if_neg (by rw [hv]; decide), if_neg (by rw [hv]; decide), if_neg (by rw [hv]; decide), if_pos hv] at h1
    by_cases hn : c.name = []
    · rw [if_neg (by rw [hv]; decide), if_pos (by simp [hv, hn])] at h2
      exact back_swn h hv hn (by have := one0 h2; omega)
    · exact back_sw h hv ((five (by decide) h1).resolve_left hn)
  · rw [if_neg (by rw [hv]; decide), if_neg (by rw [hv]; decide), if_neg (by rw [hv]; decide), if_neg (by rw [hv]; decide), if_pos hv] at h1
    rw [if_neg (by rw [hv]; decide), if_pos (by simp [hv])] at h2
    have q : c.name ≠ [] ∧ (32 : UInt8) ∉ c.name ∧ (10 : UInt8) ∉ c.name := by
      rcases five (by decide) h1 with e | e | e <;> rw [e] <;> decide
    exact back_reset h hv q.1 q.2.1 q.2.2 (by have := one0 h2; omega)
  · rw [if_neg (by rcases hv with hv | hv <;> rw [hv] <;> decide), if_pos (by rcases hv with hv | hv <;> simp [hv])] at h2
    exact back_num h (by rcases hv with hv | hv <;> simp [hv]) (by have := one0 h2; omega)
  · rw [if_pos hv] at h2
    exact back_num h (by rcases hv with hv | hv | hv <;> simp [hv]) (by have := one0 h2; omega)
  · rw [if_neg (by rw [hv]; decide), if_pos (by simp [hv])] at h2
    unfold moreS at h3
    rw [if_neg (by rw [hv]; decide), if_pos hv] at h3
    obtain ⟨q1, q2⟩ := steps_good h3
    exact back_rebase h hv (by have := one0 h2; omega) q2 q1
  · exact back_none h (.inr hv)
theorem of22C {c : CmdCmdP} (h : c.todo.length ≤ 1000) : Sh.rectolaw22_Of c = some (toC c) := by
  unfold Sh.rectolaw22_Of
  rw [of21_ok h]; rfl
theorem sm_norm {c : CmdCmdP} (h : Sm c) : Sm (normC c) := by
  obtain ⟨h1, h2, h3, h4, h5, h6⟩ := h
  refine ⟨h1, ?_, ?_, ?_, ?_, ?_⟩
  · show (if namedS c = true then c.name else []).length ≤ 1000
    split
    · exact h2
    · simp
  · show (if toldS c = true then c.text else []).length ≤ 1000
    split
    · exact h3
    · simp
  · show I64 (if numberedS c = true then c.n else 0)
    split
    · exact h4
    · exact ⟨by omega, by omega⟩
  · show (if c.verb = rebaseW then c.todo.map norm else []).length ≤ 1000
    split
    · rw [List.length_map]; exact h5
    · simp
  · show ∀ x ∈ (if c.verb = rebaseW then c.todo.map norm else []), Sml x
    split
    · intro x hx
      obtain ⟨y, hy, rfl⟩ := List.mem_map.1 hx
      obtain ⟨q1, q2, q3⟩ := h6 y hy
      refine ⟨q1, ?_, q3⟩
      show (if y.verb = rewordW then y.text else []).length ≤ 1000
      split
      · exact q2
      · simp
    · intro x hx; cases hx
theorem cmdBack_ok (c : CmdCmdP) (hi : I64 c.n) (hI : ∀ x ∈ c.todo, I64 x.commit) : Sh.rectolaw22_CmdBack c = some true := by
  apply Ok.eq
  unfold Sh.rectolaw22_CmdBack
  rw [known22b, Option.bind_some, if_neg (by simp), ok_bd]
  refine (few22_ok c).mono fun b hb => ?_
  simp only [ok_if, ok_some]
  refine ⟨fun _ => trivial, fun hbt => ?_⟩
  obtain ⟨f1, f2, f3, f4, f5⟩ := hb (by simpa using hbt)
  have hS : Sm c := ⟨by omega, by omega, by omega, hi, by omega, fun x hx => ⟨by have := (f5 x hx).2; omega, by have := (f5 x hx).1; omega, hI x hx⟩⟩
  rw [show (⟨c.verb, c.name, c.n, c.text, c.force, c.todo⟩ : CmdCmdP) = c from rfl, of22C (by omega), Option.bind_some, show (⟨(toC c).verb, (toC c).name, (toC c).n, (toC c).text, (toC c).force, (toC c).todo⟩ : Rectoref17CmdP) = toC c from rfl, rcheck17_ok hi (by omega) (fun x hx => by have := (f5 x hx).1; omega), Option.bind_some]
  refine ok_jnP (fun x => x = false) ?_ ?_
  · rintro x rfl
    rw [if_neg (by simp)]
    refine ok_jnP (fun x => x = false → placeS c.verb ≥ 0 ∧ chkE c = 0 ∧ c.n ≤ 1000000) ?_ ?_
    · intro x hx
      simp only [ok_if, ok_some]
      refine ⟨fun _ => trivial, fun hxf => ?_⟩
      obtain ⟨p1, p2, p3⟩ := hx (by simpa using hxf)
      have H : Hd c := ⟨hS, p2, place_mem (by omega), p3⟩
      obtain ⟨hP, hH⟩ := say_back H
      rw [ctxt_ok hS, Option.bind_some, Option.bind_some, rsay_ok hS, Option.bind_some, if_pos rfl, hP, Option.bind_some, hH, Option.bind_some]
      dsimp only
      rw [tells_none, Option.bind_some, if_pos rfl, show (⟨(normC c).verb, (normC c).name, (normC c).n, (normC c).text, (normC c).force, (normC c).todo⟩ : CmdCmdP) = normC c from rfl, of22C (by have := (sm_norm hS).l; omega), Option.bind_some]
      rw [show (⟨(toC (normC c)).verb, (toC (normC c)).name, (toC (normC c)).n, (toC (normC c)).text, (toC (normC c)).force, (toC (normC c)).todo⟩ : Rectoref17CmdP) = toC (normC c) from rfl, rsame22_ok _ _ (by have := (sm_norm hS).l; simp [toC]; omega), Option.bind_some, if_pos (by simp), if_pos rfl, ctxt_ok (sm_norm hS), Option.bind_some, say_norm]
      simp [ok_some]
    · intro K hK
      by_cases p1 : placeS c.verb < 0
      · simp only [if_pos p1]
        rw [if_neg (by decide)]
        exact hK _ fun h => (by cases h)
      · simp only [if_neg p1]
        by_cases p2 : chkE c = 0
        · simp only [if_pos p2]
          rw [if_pos trivial]
          refine hK _ fun h => ⟨by omega, p2, ?_⟩
          have := of_decide_eq_false h
          omega
        · simp only [if_neg p2]
          exact hK _ fun h => (by cases h)
  · intro K hK
    rw [ccheck_ok (by omega), Option.bind_some, tellsC, Option.bind_some, if_neg (by simp), cverbs_ok, Option.bind_some, rverbs17_ok, Option.bind_some, texts22, Option.bind_some]
    exact hK _ rfl
end Go.S
end
