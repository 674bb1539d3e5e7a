/- Whatever lines stand between, and whatever words: a line changed by each side, far from each other, is changed in what comes of it (MergeFar). No condition. -/
import Derived.Test.YtmkncbldffncpaaE
set_option linter.unusedVariables false
set_option linter.unusedSimpArgs false
set_option linter.unusedSectionVars false
section
namespace Go.P
/-! one side turns the first line, the other the last -/
theorem lcs_le_r : ∀ (a b : List Str), lcs a b ≤ b.length
  | [], _ => by simp [lcs]
  | x :: a, [] => by simp [lcs_nil]
  | x :: a, y :: b => by
    rw [lcs_cons]
    split
    · have := lcs_le_r a b; simp; omega
    · have h1 := lcs_le_r a (y :: b); have h2 := lcs_le_r (x :: a) b; simp at h1 ⊢; omega
theorem lcs_self : ∀ a : List Str, lcs a a = a.length
  | [] => by simp [lcs]
  | x :: a => by rw [lcs_cons, if_pos rfl, lcs_self a]; rfl
theorem lcs_ge_tail : ∀ (a : List Str) (y : Str), a.length ≤ lcs a (y :: a)
  | [], _ => Nat.zero_le _
  | x :: a, y => by
    rw [lcs_cons]
    split
    · next h => have := lcs_ge_tail a x; simp; omega
    · rw [lcs_self]; omega
theorem edits_pre : ∀ (p a b : List Str), edits (p ++ a) (p ++ b) = (p.map fun x => ⟨1, x⟩) ++ edits a b
  | [], _, _ => rfl
  | x :: p, a, b => by rw [List.cons_append, List.cons_append, edits_cons, if_pos rfl, edits_pre p a b]; rfl
theorem edits_first {x A l0 : Str} {l : List Str} (h1 : x ≠ A) (h2 : l0 ≠ A) : edits (x :: l0 :: l) (A :: l0 :: l) = ⟨2, x⟩ :: ⟨3, A⟩ :: (l0 :: l).map fun x => ⟨1, x⟩ := by
  have a1 := lcs_le_r (x :: l0 :: l) (l0 :: l)
  have a2 := lcs_ge_tail (l0 :: l) A
  rw [edits_cons, if_neg h1, if_pos (by omega), edits_cons, if_neg h2]
  have b1 := lcs_self (l0 :: l)
  have b2 := lcs_le l (A :: l0 :: l)
  simp only [List.length_cons] at b1
  rw [if_neg (by omega), edits_self]
theorem edits_last {y B : Str} {p : List Str} (h : y ≠ B) : edits (p ++ [y]) (p ++ [B]) = (p.map fun x => ⟨1, x⟩) ++ [⟨2, y⟩, ⟨3, B⟩] := by
  rw [edits_pre, edits_cons, if_neg h, if_pos (by simp [lcs_nil])]
  rfl
theorem pls_keep (q : List Edit) : ∀ (a : List Str) (j : Int), pls ((a.map fun x => ⟨1, x⟩) ++ q) j = (List.range a.length).map (fun (i : Nat) => j + (i : Int)) ++ pls q (j + a.length)
  | [], j => by simp
  | x :: a, j => by
    rw [List.map_cons, List.cons_append, pls, if_neg (by simp), if_neg (by simp), pls_keep q a (j + 1), List.length_cons, List.range_succ_eq_map, List.map_cons, List.map_map]
    simp only [List.cons_append, List.cons.injEq]
    refine ⟨by omega, ?_⟩
    congr 1
    · apply List.map_congr_left; intro i _; simp only [Function.comp]; omega
    · congr 1; omega
theorem places_first {x A l0 : Str} {l : List Str} (h1 : x ≠ A) (h2 : l0 ≠ A) (n : Nat) (h : n < l.length + 2) : (places (x :: l0 :: l) (A :: l0 :: l))[n]? = some (if n = 0 then -1 else (n : Int)) := by
  rw [places_pls, edits_first h1 h2, pls, if_neg (by simp), if_pos rfl, pls, if_pos rfl]
  have := pls_keep [] (l0 :: l) (0 + 1)
  rw [List.append_nil] at this
  rw [this]
  cases n with
  | zero => rfl
  | succ n =>
    rw [List.getElem?_cons_succ, List.getElem?_append_left (by simp; omega), List.getElem?_map, List.getElem?_range (by simp; omega)]
    simp; omega
theorem places_last {y B : Str} {p : List Str} (h : y ≠ B) (n : Nat) (hn : n < p.length + 1) : (places (p ++ [y]) (p ++ [B]))[n]? = some (if n = p.length then -1 else (n : Int)) := by
  rw [places_pls, edits_last h, pls_keep]
  by_cases e : n = p.length
  · subst e
    rw [List.getElem?_append_right (by simp), if_pos rfl]
    simp [pls]
  · rw [List.getElem?_append_left (by simp; omega), List.getElem?_map, List.getElem?_range (by omega), if_neg e]
    simp
theorem far_chunks {x y A B m0 : Str} {m : List Str} (h1 : x ≠ A) (h2 : m0 ≠ A) (h3 : y ≠ B) :
    chunks (x :: m0 :: (m ++ [y])) (A :: m0 :: (m ++ [y])) (x :: m0 :: (m ++ [B])) = [⟨[x], [A], [x], false, [A]⟩, ⟨m0 :: m, m0 :: m, m0 :: m, false, m0 :: m⟩, ⟨[y], [y], [B], false, [B]⟩] := by
  have hP := fun n h => places_first (x := x) (A := A) (l0 := m0) (l := m ++ [y]) h1 h2 n h
  have hQ := fun n h => places_last (y := y) (B := B) (p := x :: m0 :: m) h3 n h
  simp only [List.length_append, List.length_cons, List.length_nil] at hP hQ
  have hQ' : ∀ n, n < m.length + 3 → (places (x :: m0 :: (m ++ [y])) (x :: m0 :: (m ++ [B])))[n]? = some (if n = m.length + 2 then -1 else (n : Int)) := fun n h => hQ n (by omega)
  unfold chunks
  generalize places (x :: m0 :: (m ++ [y])) (A :: m0 :: (m ++ [y])) = PA at *
  generalize places (x :: m0 :: (m ++ [y])) (x :: m0 :: (m ++ [B])) = PB at *
  have gx : gapv [x] [A] [x] = ⟨[x], [A], [x], false, [A]⟩ := by unfold gapv; rw [if_neg fun h => h1 (by simpa using h.symm), if_pos rfl]
  have gy : gapv [y] [y] [B] = ⟨[y], [y], [B], false, [B]⟩ := by unfold gapv; rw [if_pos rfl]
  have hr : ∀ k, k ≤ m.length → wrun (x :: m0 :: (m ++ [y])) (A :: m0 :: (m ++ [y])) (x :: m0 :: (m ++ [B])) PA PB (k + 2) = ⟨k + 2, k + 2, k + 2, [⟨[x], [A], [x], false, [A]⟩, ⟨m0 :: m.take k, m0 :: m.take k, m0 :: m.take k, false, m0 :: m.take k⟩], true⟩ := by
    intro k
    induction k with
    | zero =>
      intro _
      have e1 : wrun (x :: m0 :: (m ++ [y])) (A :: m0 :: (m ++ [y])) (x :: m0 :: (m ++ [B])) PA PB 1 = ⟨0, 0, 0, [], false⟩ := by
        rw [wrun, wrun, wstep, hP 0 (by omega), hQ' 0 (by omega)]
        simp
      rw [wrun, e1, wstep, hP 1 (by omega), hQ' 1 (by omega)]
      have hm : (x :: m0 :: (m ++ [y]))[1]? = some m0 := rfl
      rw [hm]
      have s0 : ∀ (z : Str) (l : List Str), sl (z :: l) 0 1 = [z] := fun z l => by simp [sl]
      show keepW (put _ _ _ ⟨0, 0, 0, [], false⟩ (1 : Int) 1 1) m0 = _
      rw [put, if_pos (.inl (by decide))]
      dsimp only
      rw [s0, s0, s0, gx]
      simp [keepW, addL, nilC]
    | succ k ih =>
      intro hk
      rw [wrun, ih (by omega), wstep, hP (k + 2) (by omega), hQ' (k + 2) (by omega), if_neg (by omega), if_neg (by omega)]
      have hm : (x :: m0 :: (m ++ [y]))[k + 2]? = some (m[k]'(by omega)) := by
        simp only [List.getElem?_cons_succ]
        rw [List.getElem?_append_left (by omega), List.getElem?_eq_getElem (by omega)]
      have ht : m.take (k + 1) = m.take k ++ [m[k]'(by omega)] := by rw [List.take_add_one, List.getElem?_eq_getElem (by omega)]; rfl
      rw [hm]
      simp only
      rw [if_pos (by omega), put, if_neg (by dsimp only; omega)]
      have e0 : ((k + 1 : Nat) : Int) + 2 = ((k + 2 : Nat) : Int) + 1 := by omega
      rw [e0, ht]
      rfl
  have hl : (x :: m0 :: (m ++ [y])).length = m.length + 2 + 1 := by simp
  rw [hl, wrun, hr m.length (Nat.le_refl _), wstep, hP (m.length + 2) (by omega), hQ' (m.length + 2) (by omega), if_neg (by omega), if_pos rfl]
  have hy : (x :: m0 :: (m ++ [y]))[m.length + 2]? = some y := by simp
  rw [hy]
  simp only
  rw [if_neg (by omega), put, if_pos (by dsimp only; omega)]
  have s1 : ∀ z : Str, ∀ w : Str, sl (z :: m0 :: (m ++ [w])) ((m.length : Int) + 2) (((z :: m0 :: (m ++ [w])).length : Nat) : Int) = [w] := fun z w => by
    unfold sl
    rw [show ((m.length : Int) + 2).toNat = m.length + 2 by omega, show ((((z :: m0 :: (m ++ [w])).length : Nat) : Int)).toNat - (m.length + 2) = 1 by simp; omega]
    simp
  have e : ((m.length + 2 + 1 : Nat) : Int) = (((x :: m0 :: (m ++ [y])).length : Nat) : Int) := by simp; omega
  dsimp only
  rw [e, s1, s1, s1, gy, List.take_length]
  rfl
theorem spl_lines : ∀ (ms : List Str) (r : Str), (∀ l ∈ ms, ∃ p, l = p ++ [10] ∧ 10 ∉ p) → spl (ms.flatten ++ r) = ms ++ spl r
  | [], r, _ => rfl
  | l :: ms, r, h => by
    obtain ⟨p, rfl, hp⟩ := h l (by simp)
    rw [List.flatten_cons, List.append_assoc, List.append_assoc, List.singleton_append, spl_app p _ hp, spl_lines ms r fun l hl => h l (List.mem_cons_of_mem _ hl)]
    rfl
end Go.P
end

section
namespace Go.S
open Go Go.P
/-- the lines in the middle -/
def fl (k : Nat) : Str := [109, UInt8.ofNat (48 + k), 10]
def fls (k : Nat) : List Str := (List.range k).map fl
theorem fl_ok : ∀ k < 10, ∃ p, fl k = p ++ [10] ∧ 10 ∉ p := fun k hk => ⟨[109, UInt8.ofNat (48 + k)], rfl, by
  have : ∀ k < 10, UInt8.ofNat (48 + k) ≠ 10 := by decide
  intro h
  simp only [List.mem_cons, List.not_mem_nil, or_false] at h
  rcases h with h | h
  · exact absurd h (by decide)
  · exact this k hk h.symm⟩
theorem fls_ok {k : Nat} (hk : k ≤ 10) : ∀ l ∈ [109, 10] :: fls k, ∃ p, l = p ++ [10] ∧ 10 ∉ p := fun l hl => by
  rcases List.mem_cons.1 hl with rfl | hl
  · exact ⟨[109], rfl, by decide⟩
  · obtain ⟨i, hi, rfl⟩ := List.mem_map.1 hl
    exact fl_ok i (by have := List.mem_range.1 hi; omega)
theorem fls_len (k : Nat) : (fls k).flatten.length = 3 * k := by
  induction k with
  | zero => rfl
  | succ k ih => unfold fls at ih ⊢; rw [List.range_succ, List.map_append, List.flatten_append, List.length_append, ih]; simp [fl]; omega
/-- the merge at the far lines -/
theorem far_text {a b : Str} {k : Nat} (hk : k ≤ 10) (ha : 10 ∉ a) (hb : 10 ∉ b) (la : a.length ≤ 50) (lb : b.length ≤ 50) (M : Str) (hM : M = [109, 10] ++ (fls k).flatten) :
    Sh.merge_Text ([120, 10] ++ M ++ [121, 10]) ([97] ++ a ++ [10] ++ M ++ [121, 10]) ([120, 10] ++ M ++ [98] ++ b ++ [10]) [112] [113] = some ([97] ++ a ++ [10] ++ M ++ [98] ++ b ++ [10], 0, Err.nil) := by
  have hl := fls_len k
  have lM : M.length = 2 + 3 * k := by rw [hM, List.length_append, hl]; rfl
  have hs : ∀ r, spl (M ++ r) = [109, 10] :: (fls k ++ spl r) := fun r => by
    have := spl_lines ([109, 10] :: fls k) r (fls_ok hk)
    rw [List.flatten_cons] at this
    rw [hM]; exact this
  have hp : ∀ (p r : Str), 10 ∉ p → spl (p ++ [10] ++ r) = (p ++ [10]) :: spl r := fun p r h => by rw [List.append_assoc]; exact spl_app p r h
  have ha' : 10 ∉ [97] ++ a := fun h => by rcases List.mem_append.1 h with h | h; exact absurd h (by decide); exact ha h
  have hb' : 10 ∉ [98] ++ b := fun h => by rcases List.mem_append.1 h with h | h; exact absurd h (by decide); exact hb h
  have e1 : spl ([120, 10] ++ M ++ [121, 10]) = [120, 10] :: [109, 10] :: (fls k ++ [[121, 10]]) := by
    rw [List.append_assoc, show ([120, 10] : Str) = [120] ++ [10] from rfl, hp _ _ (by decide), hs]; rfl
  have e2 : spl ([97] ++ a ++ [10] ++ M ++ [121, 10]) = ([97] ++ a ++ [10]) :: [109, 10] :: (fls k ++ [[121, 10]]) := by
    rw [List.append_assoc ([97] ++ a ++ [10]) M, hp _ _ ha', hs]; rfl
  have e3 : spl ([120, 10] ++ M ++ [98] ++ b ++ [10]) = [120, 10] :: [109, 10] :: (fls k ++ [[98] ++ b ++ [10]]) := by
    have := hp ([98] ++ b) [] hb'
    rw [List.append_nil] at this
    rw [List.append_assoc ([120, 10] ++ M ++ [98]) b, List.append_assoc ([120, 10] ++ M) [98], ← List.append_assoc [98] b, List.append_assoc [120, 10] M, show ([120, 10] : Str) = [120] ++ [10] from rfl, hp _ _ (by decide), hs, this]; rfl
  have lf : (fls k).length = k := by simp [fls]
  rw [text_small _ _ _ _ _ (by simp [lM]; omega) (by simp [lM]; omega) (by simp [lM]; omega) (by rw [e1]; simp [lf]; omega) (by rw [e2]; simp [lf]; omega) (by rw [e3]; simp [lf]; omega) (by decide) (by decide)]
  rw [e1, e2, e3, far_chunks (by simp) (by simp) (by simp)]
  have : join ([109, 10] :: fls k) = M := by rw [join_flat, List.flatten_cons, hM]
  simp [tvs, tv, nclash, this]
  simp [join]
theorem no_nl {a : Str} {i : Int} {z : UInt8} (h0 : 0 ≤ i) (hz : a[i.toNat]? = some z) (h : ¬ (z.toNat : Int) = 10) (hn : 10 ∉ a.take i.toNat) : 10 ∉ a.take (i + 1).toNat := by
  rw [show (i + 1).toNat = i.toNat + 1 by omega, List.take_add_one, hz]
  intro q
  rcases List.mem_append.1 q with q | q
  · exact hn q
  · simp at q; subst q; exact h rfl
theorem far (n : Int) (a b : Str) (hn : 0 ≤ n ∧ n ≤ 255) : Sh.rectolaw13_MergeFar n a b = some true := by
  unfold Sh.rectolaw13_MergeFar
  rw [known_ok, Option.bind_some, if_neg (by decide)]
  apply ok_true
  have hm : 0 ≤ n % 10 ∧ n % 10 < 10 := by omega
  simp only [ok_if, ok_jn, ok_some]
  refine ⟨fun _ => ⟨fun _ => trivial, fun q => absurd trivial q⟩, fun h1 => ⟨fun _ => trivial, fun h2 => ?_⟩⟩
  have h2' : ¬ (50 : Int) < b.length := by simpa using h2
  refine ok_iter (I := fun i => 0 ≤ i ∧ i ≤ a.length ∧ 10 ∉ a.take i.toNat) (μ := fun i => (a.length - i).toNat) ?_ ⟨by simp, by simp, by simp⟩
  rintro i ⟨i0, i1, hi⟩
  simp only [ok_if, ok_up, ok_bd, ok_gd, ok_lt, ok_go, ok_some, ok_at]
  refine ⟨fun hlt => ⟨i0, _, List.getElem?_eq_getElem (by omega), fun _ => trivial, fun hz => ⟨⟨by omega, by omega⟩, ⟨by omega, by omega, no_nl i0 (List.getElem?_eq_getElem (by omega)) hz hi⟩, by omega⟩⟩, fun hlt => ?_⟩
  have na : 10 ∉ a := by
    have : a.take i.toNat = a := List.take_of_length_le (by omega)
    rwa [this] at hi
  refine ok_iter (I := fun i => 0 ≤ i ∧ i ≤ b.length ∧ 10 ∉ b.take i.toNat) (μ := fun i => (b.length - i).toNat) ?_ ⟨by simp, by simp, by simp⟩
  rintro j ⟨j0, j1, hj⟩
  simp only [ok_if, ok_up, ok_bd, ok_gd, ok_lt, ok_go, ok_some, ok_at]
  refine ⟨fun hlt => ⟨j0, _, List.getElem?_eq_getElem (by omega), fun _ => trivial, fun hz => ⟨⟨by omega, by omega⟩, ⟨by omega, by omega, no_nl j0 (List.getElem?_eq_getElem (by omega)) hz hj⟩, by omega⟩⟩, fun hlt2 => ?_⟩
  have nb : 10 ∉ b := by
    have : b.take j.toNat = b := List.take_of_length_le (by omega)
    rwa [this] at hj
  refine ok_iter (I := fun s => 0 ≤ s.2 ∧ s.2 ≤ n % 10 ∧ s.1 = [109, 10] ++ (fls s.2.toNat).flatten) (μ := fun s => (n % 10 - s.2).toNat) ?_ ⟨by simp, hm.1, rfl⟩
  rintro ⟨M, k⟩ ⟨k0, k1, hM⟩
  dsimp only at k0 k1 hM
  have lM : M.length = 2 + 3 * k.toNat := by rw [hM, List.length_append, fls_len]; rfl
  simp only [ok_if, ok_up, ok_bd, ok_gd, ok_lt, ok_go, ok_some, ok_at, List.length_append, List.length_cons, List.length_nil]
  refine ⟨⟨hn.1, by decide⟩, ⟨by omega, by omega⟩, fun hlt3 => ?_, fun hlt3 => ?_⟩
  · refine ⟨by omega, ⟨by omega, by omega⟩, ⟨by omega, by omega⟩, ⟨by omega, by omega⟩, by omega, by omega, ⟨by omega, by omega⟩, ⟨by omega, by omega, ?_⟩, by omega⟩
    rw [show (k + 1).toNat = k.toNat + 1 by omega, hM]
    unfold fls
    rw [List.range_succ, List.map_append, List.flatten_append]
    simp [fl, show (48 + k).toNat = 48 + k.toNat by omega]
  · rw [far_text (k := k.toNat) (by omega) na nb (by omega) (by omega) M hM]
    simp only [ok_some]
    refine ⟨by omega, by omega, by omega, by omega, by omega, by omega, by omega, by omega, by omega, by omega, ?_⟩
    exact ⟨fun _ => ⟨fun _ => ⟨by omega, by omega, by omega, by omega, by omega, by omega, by simp⟩, fun h => absurd trivial h⟩, fun h => absurd rfl h⟩
end Go.S
end

section
set_option linter.unusedVariables false
namespace Go.Proofs.Ytmkncbldffncpaa
open Go.ChangeShapes Go.WideShapes Go.ChangeAt Go.RowKit Go.V
open Go.S hiding Str
theorem Try.own : ownKnob Try.prog.godebug = none := by kernel_rfl
theorem Try.laidOut : laidOutB Try.prog = true := by kernel_rfl
set_option maxRecDepth 100000 in
theorem mergeFar_lifted (os : Os) (started : os.Started) (H : Type) (enc : TypeId × Value → H) :
    ReturnsInHanded {} Try.checked os 7 .any (Rows.mergeFarSpec.pre6 enc Try.prog Try.f7 Rows.mergeFarRow.domain false) (Rows.mergeFarSpec.post enc Try.prog Try.f7 false true false false) := by
  refine returnsInHanded_of_change (C := Try.checked) Try.own started (by kernel_rfl) Try.func7
    (ChangeSpec.witness6 (enc := enc) (C := Try.checked) false ⟨#[], #[.int .u8 0, .string ⟨#[]⟩, .string ⟨#[]⟩], []⟩ 8 (by kernel_rfl) (by kernel_rfl) (by kernel_rfl) (by kernel_rfl)) ?_
  intro W base args ds gs before hval0 hW hcnd _
  have hval : ∀ (j : Nat) t v, Try.f7.params[j]? = some t → args[j]? = some v → Value.okWide Try.prog W .any base t v := hval0
  have hW' := hW
  obtain ⟨p, q, hA0, hV, hpq, hfz, hnd⟩ := hW'
  have hA : DataW.TrodAll enc Try.prog W 0 (fun _ => true) true Try.f7.params.toList args.toList ds p := hA0
  rw [Try.params7] at hA hval
  obtain ⟨v0, vs0, d0, ds0, p0, q0, hargs, rfl, hp0, h0, r0⟩ := trodAll_cons hA
  obtain ⟨v1, vs1, d1, ds1, p1, q1, rfl, rfl, hp1, h1, r1⟩ := trodAll_cons r0
  obtain ⟨v2, vs2, d2, ds2, p2, q2, rfl, rfl, hp2, h2, r2⟩ := trodAll_cons r1
  obtain ⟨rfl, rfl, hq⟩ := trodAll_nil r2
  obtain rfl : args = #[v0, v1, v2] := by cases args; simp_all
  obtain ⟨x0, rfl, _, _, w0⟩ := open_int Try.underlying5 (hval 0 5 v0 rfl rfl) h0
  have b0 : 0 ≤ x0 ∧ x0 ≤ 255 := by simpa [Lit.wf, IntKind.min, IntKind.max, IntKind.signed, IntKind.bits] using w0
  obtain ⟨x1, rfl⟩ := op_str Try.underlying9 (hval 1 9 v1 rfl rfl)
  obtain ⟨x2, rfl⟩ := op_str Try.underlying9 (hval 2 9 v2 rfl rfl)
  refine (((rectolaw13_MergeFar_ct x0 x1 x2 (far x0 x1 x2 b0)).law trivial)).mono fun e W' ⟨he, hg⟩ => ⟨_, he, ?_⟩
  exact law_post Try.laidOut (by kernel_rfl) (by kernel_rfl) Try.underlying4 rfl hW hg rfl
theorem mergeFar_holds : Rows.MergeFarSaid :=
  OpenClaim.holds_of_wide 7 Try.f7 rfl rfl rfl rfl rfl rfl rfl ⟨rfl, rfl, rfl, rfl, rfl⟩ rfl rfl rfl rfl rfl (by kernel_rfl) Try.func7 (by kernel_rfl)
    (of_decide_eq_true (by kernel_rfl)) (by unfold Func.isWrapper; first | (rw [if_pos (by decide +kernel)]; kernel_rfl) | (rw [if_neg (by decide +kernel)]; exact ⟨rfl, rfl⟩))
    (fun os started H enc _ => mergeFar_lifted os started H enc)
end Go.Proofs.Ytmkncbldffncpaa
end
