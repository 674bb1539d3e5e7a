/- Part of the proofs of: What becomes of one path of any three trees: its file, or none, and whether it clashes, as the document says. -/
import Derived.Test.YtleokmhhloamaaaGreatDoorOF
set_option linter.unusedVariables false
set_option linter.unusedSimpArgs false
set_option linter.unusedSectionVars false
section
namespace Go.S
open Go Go.P
def toRE (e : P.Edit) : Rectoref11Edit := ⟨e.op, e.line⟩
theorem crows_at (a b : List (List UInt8)) {i : Int} (i0 : 0 ≤ i) (h : i ≤ a.length) : at_ ((List.range (a.length + 1)).map (P.crow a b)) i = some (P.crow a b i.toNat) := by
  refine gl_atv i0 ?_
  rw [List.getElem?_map, List.getElem?_range (by omega)]; rfl
theorem crowv_at (a b : List (List UInt8)) (i : Nat) {j : Int} (j0 : 0 ≤ j) (h : j ≤ b.length) : at_ (P.crow a b i) j = some (lcs (a.drop i) (b.drop j.toNat) : Int) := gl_atv j0 (crow_at a b i (by omega))
theorem at_lt {α : Type} {l : List α} {i : Int} {z : α} (h : l[i.toNat]? = some z) (i0 : 0 ≤ i) : i < l.length := by
  have := (List.getElem?_eq_some_iff.1 h).1
  omega
theorem linesR {a b : List (List UInt8)} (ha : a.length ≤ 256) (hb : b.length ≤ 256) : Sh.rectoref11_Lines a b = some ((edits a b).map toRE, ⟨[], 0⟩) := by
  apply Ok.eq
  unfold Sh.rectoref11_Lines
  have h1 : Sh.rectoref11_long a b = some ⟨[], 0⟩ := by
    unfold Sh.rectoref11_long
    rw [if_neg (by omega), if_neg (by omega)]
  have h2 : Sh.rectoref11_common a b = some ((List.range (a.length + 1)).map (P.crow a b)) := if_pos ⟨ha, hb⟩
  rw [h1, Option.bind_some, if_pos (by rfl), h2, Option.bind_some]
  refine ok_jnP (fun o => o = (edits a b).map toRE) ?_ ?_
  · rintro o rfl
    exact ok_some.2 rfl
  · intro K hK
    refine ok_iter (I := fun s => 0 ≤ s.2.1 ∧ s.2.1 ≤ a.length ∧ 0 ≤ s.2.2 ∧ s.2.2 ≤ b.length ∧ (s.1.length : Int) ≤ s.2.1 + s.2.2 ∧ s.1 ++ (edits (a.drop s.2.1.toNat) (b.drop s.2.2.toNat)).map toRE = (edits a b).map toRE) (μ := fun s => (a.length - s.2.1 + (b.length - s.2.2)).toNat) ?_ ⟨by dsimp only; omega, by dsimp only; omega, by dsimp only; omega, by dsimp only; omega, by simp, by simp⟩
    rintro ⟨o, i, j⟩ ⟨i0, i1, j0, j1, hl, he⟩
    dsimp only at i0 i1 j0 j1 hl he ⊢
    refine ok_jnP (fun _ => i < a.length ∨ j < b.length) ?_ ?_
    · intro _ hij
      refine ok_jnP (fun v => v = decide (stepv (a.drop i.toNat) (b.drop j.toNat) = 1)) ?_ ?_
      · rintro v rfl
        rw [ok_if]
        refine ⟨fun q => ?_, fun q => ?_⟩
        · have q := of_decide_eq_true q
          obtain ⟨ia, jb⟩ := stepv_is1 q
          obtain ⟨z, hz⟩ := gl_at i0 ia
          rw [gl_atv i0 hz, Option.bind_some]
          simp only [ok_lt, ok_gd, ok_go]
          refine ⟨by simp only [List.length_cons, List.length_nil]; omega, ⟨by omega, by omega⟩, ⟨by omega, by omega⟩, ⟨by omega, by omega, by omega, by omega, by simp only [List.length_append, List.length_cons, List.length_nil]; omega, ?_⟩, by omega⟩
          rw [edits_1 i0 j0 q hz] at he
          rw [← he]; simp [toRE]
        · have q := of_decide_eq_false (by simpa using q : decide (stepv (a.drop i.toNat) (b.drop j.toNat) = 1) = false)
          refine ok_jnP (fun v => v = decide (stepv (a.drop i.toNat) (b.drop j.toNat) = 2)) ?_ ?_
          · rintro v rfl
            rw [ok_if]
            refine ⟨fun q2 => ?_, fun q2 => ?_⟩
            · have q2 := of_decide_eq_true q2
              have ia := stepv_is2 q2
              obtain ⟨z, hz⟩ := gl_at i0 ia
              rw [gl_atv i0 hz, Option.bind_some]
              simp only [ok_lt, ok_gd, ok_go]
              refine ⟨by simp only [List.length_cons, List.length_nil]; omega, ⟨by omega, by omega⟩, ⟨by omega, by omega, by omega, by omega, by simp only [List.length_append, List.length_cons, List.length_nil]; omega, ?_⟩, by omega⟩
              rw [edits_2 i0 q2 hz] at he
              rw [← he]; simp [toRE]
            · have q2 := of_decide_eq_false (by simpa using q2 : decide (stepv (a.drop i.toNat) (b.drop j.toNat) = 2) = false)
              have q3 : stepv (a.drop i.toNat) (b.drop j.toNat) = 3 := by
                rcases stepv_cases (a.drop i.toNat) (b.drop j.toNat) with h | h | h
                · exact absurd h q
                · exact absurd h q2
                · exact h
              have jb := stepv_is3 i0 j0 q3 hij
              obtain ⟨z, hz⟩ := gl_at j0 jb
              rw [gl_atv j0 hz, Option.bind_some]
              simp only [ok_lt, ok_gd, ok_go]
              refine ⟨by simp only [List.length_cons, List.length_nil]; omega, ⟨by omega, by omega⟩, ⟨by omega, by omega, by omega, by omega, by simp only [List.length_append, List.length_cons, List.length_nil]; omega, ?_⟩, by omega⟩
              rw [edits_3 j0 q3 hz] at he
              rw [← he]; simp [toRE]
          · intro K2 hK2
            rw [ok_if]
            refine ⟨fun ia => ?_, fun ia => ?_⟩
            · obtain ⟨x, hx⟩ := gl_at i0 ia
              rw [ok_if]
              refine ⟨fun jb => hK2 _ ?_, fun jb => ?_⟩
              · have := stepv_b (a := a) (b := b) i0 ia j0 (by omega)
                rw [← this]; rfl
              · have jb' : j < b.length := by omega
                obtain ⟨y, hy⟩ := gl_at j0 jb'
                refine ok_gd.2 ⟨⟨by omega, by omega⟩, ?_⟩
                rw [crows_at a b (by omega) (by omega), Option.bind_some, crowv_at a b _ j0 (by omega), Option.bind_some, crows_at a b i0 (by omega), Option.bind_some]
                refine ok_gd.2 ⟨⟨by omega, by omega⟩, ?_⟩
                rw [crowv_at a b _ (by omega) (by omega), Option.bind_some]
                refine hK2 _ ?_
                have hv := stepv_xy hx hy
                by_cases exy : x = y
                · rw [if_pos exy] at hv; exact absurd hv q
                · rw [if_neg exy] at hv
                  rw [hv]
                  have e1 : (i + 1).toNat = i.toNat + 1 := by omega
                  have e2 : (j + 1).toNat = j.toNat + 1 := by omega
                  rw [e1, e2]
                  by_cases hle : lcs (a.drop i.toNat) (b.drop (j.toNat + 1)) ≤ lcs (a.drop (i.toNat + 1)) (b.drop j.toNat)
                  · rw [if_pos hle]; simp; omega
                  · rw [if_neg hle]; simp; omega
            · refine hK2 _ ?_
              have := stepv_a (a := a) (b := b) (j := j) i0 ia
              rw [← this]; rfl
      · intro K2 hK2
        rw [ok_if]
        refine ⟨fun ia => ?_, fun ia => ?_⟩
        · obtain ⟨x, hx⟩ := gl_at i0 ia
          rw [ok_if]
          refine ⟨fun jb => ?_, fun jb => hK2 _ ?_⟩
          · obtain ⟨y, hy⟩ := gl_at j0 jb
            rw [gl_atv i0 hx, Option.bind_some, gl_atv j0 hy, Option.bind_some]
            refine hK2 _ ?_
            have hv := stepv_xy hx hy
            by_cases exy : x = y
            · rw [if_pos exy] at hv; rw [hv]; simp [exy]
            · rw [if_neg exy] at hv
              rw [hv]
              split <;> simp [exy]
          · have := stepv_b (a := a) (b := b) i0 ia j0 jb
            rw [← this]; rfl
        · refine hK2 _ ?_
          have := stepv_a (a := a) (b := b) (j := j) i0 ia
          rw [← this]; rfl
    · intro K2 hK2
      rw [ok_if]
      refine ⟨fun ia => hK2 _ (.inl ia), fun ia => ?_⟩
      rw [ok_if]
      refine ⟨fun jb => hK2 _ (.inr jb), fun jb => ok_up.2 (hK _ ?_)⟩
      rw [← he, List.drop_of_length_le (by omega), List.drop_of_length_le (by omega)]
      simp [edits]
theorem keptR (l : List P.Edit) (n : Nat) (hl : l.length ≤ 100000) (hn : ((pls l 0).length : Int) = n) (ho : ∀ e ∈ l, e.op = 1 ∨ e.op = 2 ∨ e.op = 3) : Sh.rectoref11_kept (l.map toRE) (n : Int) = some (pls l 0) := by
  apply Ok.eq
  have hlen : (l.map toRE).length = l.length := List.length_map ..
  have hple : ∀ (m : List P.Edit) (j : Int), (pls m j).length ≤ m.length := fun m => by
    induction m with
    | nil => intro j; simp [pls]
    | cons e r ih =>
      intro j
      have h1 := ih j
      have h2 := ih (j + 1)
      unfold pls
      split
      · simp only [List.length_cons]; omega
      · split <;> simp only [List.length_cons] <;> omega
  have hnl := hple l 0
  unfold Sh.rectoref11_kept
  simp only [hlen]
  refine ok_gd.2 ⟨⟨by omega, by omega⟩, ok_lt.2 ?_⟩
  refine ok_iter (I := fun s => 0 ≤ s.2.2.2 ∧ s.2.2.2 ≤ l.length ∧ 0 ≤ s.2.1 ∧ s.2.1 ≤ s.2.2.2 ∧ 0 ≤ s.2.2.1 ∧ s.2.2.1 ≤ s.2.2.2 ∧ s.1.length = n ∧ s.1.take s.2.1.toNat ++ pls (l.drop s.2.2.2.toNat) s.2.2.1 = pls l 0 ∧ (s.2.1 : Int) + (pls (l.drop s.2.2.2.toNat) s.2.2.1).length = n) (μ := fun s => (l.length - s.2.2.2).toNat) ?_ ⟨by dsimp only; omega, by dsimp only; omega, by dsimp only; omega, by dsimp only; omega, by dsimp only; omega, by dsimp only; omega, by simp, by simp, by simp [hn]⟩
  rintro ⟨o, i, j, k⟩ ⟨k0, k1, i0, i1, j0, j1, hol, he, hc⟩
  dsimp only at k0 k1 i0 i1 j0 j1 hol he hc ⊢
  by_cases hk : k < l.length
  · obtain ⟨e, hz⟩ := gl_at k0 hk
    have hd : l.drop k.toNat = e :: l.drop (k + 1).toNat := by
      rw [show (k + 1).toNat = k.toNat + 1 by omega, ← (List.getElem?_eq_some_iff.1 hz).2, ← List.drop_eq_getElem_cons]
    rw [hd] at he hc
    rw [if_pos hk]
    refine ok_jnP (fun s => 0 ≤ s.2.1 ∧ s.2.1 ≤ k + 1 ∧ 0 ≤ s.2.2 ∧ s.2.2 ≤ k + 1 ∧ s.1.length = n ∧ s.1.take s.2.1.toNat ++ pls (l.drop (k + 1).toNat) s.2.2 = pls l 0 ∧ (s.2.1 : Int) + (pls (l.drop (k + 1).toNat) s.2.2).length = n) ?_ ?_
    · rintro ⟨o', i', j'⟩ ⟨p1, p2, p3, p4, p5, p6, p7⟩
      dsimp only at p1 p2 p3 p4 p5 p6 p7 ⊢
      exact ok_gd.2 ⟨⟨by omega, by omega⟩, ok_go.2 ⟨⟨by dsimp only; omega, by dsimp only; omega, p1, p2, p3, p4, p5, p6, p7⟩, by dsimp only; omega⟩⟩
    · intro K hK
      rw [gl_atv k0 (gl_map toRE hz), Option.bind_some]
      have hop := ho e (List.mem_of_getElem? hz)
      have hset : ∀ v : Int, i.toNat < o.length → (o.set i.toNat v).take (i + 1).toNat = o.take i.toNat ++ [v] := fun v h => by
        rw [show (i + 1).toNat = i.toNat + 1 by omega, List.take_set, List.take_add_one]
        rw [List.set_append_right _ _ (by rw [List.length_take]; omega)]
        rw [List.length_take, Nat.min_eq_left (by omega), Nat.sub_self, List.getElem?_eq_getElem h]
        rfl
      rcases hop with q | q | q
      · have hp : pls (e :: l.drop (k + 1).toNat) j = j :: pls (l.drop (k + 1).toNat) (j + 1) := by
          rw [pls, if_neg (by omega), if_neg (by omega)]
        rw [hp] at he hc
        simp only [List.length_cons] at hc
        obtain ⟨w, hw⟩ := gl_at (l := o) i0 (by omega)
        rw [if_pos (show (toRE e).op = 1 from q), gl_atv i0 hw, Option.bind_some]
        simp only [ok_lt, ok_gd]
        refine ⟨⟨by omega, by omega⟩, ⟨by omega, by omega⟩, hK _ ⟨by dsimp only; omega, by dsimp only; omega, by dsimp only; omega, by dsimp only; omega, by simp [hol], ?_, by dsimp only; omega⟩⟩
        show (o.set i.toNat j).take (i + 1).toNat ++ _ = _
        rw [hset j (by omega), ← he]; simp
      · have hp : pls (e :: l.drop (k + 1).toNat) j = (-1) :: pls (l.drop (k + 1).toNat) j := by
          rw [pls, if_neg (by omega), if_pos q]
        rw [hp] at he hc
        simp only [List.length_cons] at hc
        obtain ⟨w, hw⟩ := gl_at (l := o) i0 (by omega)
        rw [if_neg (show ¬ (toRE e).op = 1 from by show ¬ e.op = 1; omega), if_pos (show (toRE e).op = 2 from q), gl_atv i0 hw, Option.bind_some]
        simp only [ok_lt, ok_gd]
        refine ⟨⟨by omega, by omega⟩, hK _ ⟨by dsimp only; omega, by dsimp only; omega, by dsimp only; omega, by dsimp only; omega, by simp [hol], ?_, by dsimp only; omega⟩⟩
        show (o.set i.toNat (-1)).take (i + 1).toNat ++ _ = _
        rw [hset (-1) (by omega), ← he]; simp
      · have hp : pls (e :: l.drop (k + 1).toNat) j = pls (l.drop (k + 1).toNat) (j + 1) := by
          rw [pls, if_pos q]
        rw [hp] at he hc
        rw [if_neg (show ¬ (toRE e).op = 1 from by show ¬ e.op = 1; omega), if_neg (show ¬ (toRE e).op = 2 from by show ¬ e.op = 2; omega), if_pos (show (toRE e).op = 3 from q)]
        exact ok_gd.2 ⟨⟨by omega, by omega⟩, hK _ ⟨i0, by dsimp only; omega, by dsimp only; omega, by dsimp only; omega, hol, he, hc⟩⟩
  · rw [if_neg hk]
    rw [List.drop_of_length_le (by omega)] at he hc
    simp [pls] at he hc
    refine ok_up.2 (ok_some.2 ?_)
    rw [← he, List.take_of_length_le (by omega)]
end Go.S
end

section
namespace Go.S
open Go Go.P
def toRC (c : P.Chunk) : Rectoref11ChunkP := ⟨c.base, c.ours, c.theirs, c.clash, c.out⟩
theorem betweenR (b o t : List (List UInt8)) (ho : o.length ≤ 1048576) (ht : t.length ≤ 1048576) : Sh.rectoref11_between b o t = some (toRC (gapv b o t)) := by
  unfold Sh.rectoref11_between
  rw [LP.requal_ok o b ho, Option.bind_some]
  unfold gapv
  by_cases h1 : o = b
  · rw [if_pos h1, if_pos (by simpa using h1)]; rfl
  · rw [if_neg h1, if_neg (by simpa using h1), LP.requal_ok t b ht, Option.bind_some]
    by_cases h2 : t = b
    · rw [if_pos h2, if_pos (by simpa using h2)]; rfl
    · rw [if_neg h2, if_neg (by simpa using h2), LP.requal_ok o t ho, Option.bind_some]
      by_cases h3 : o = t
      · rw [if_pos h3, if_pos (by simpa using h3)]; rfl
      · rw [if_neg h3, if_neg (by simpa using h3)]; rfl
def EndW (b o t : List (List UInt8)) (w : Wk) : Prop := w.op = true → ¬ ((places b o)[w.i.toNat]? = some w.j ∧ (places b t)[w.i.toNat]? = some w.k)
def runC (b : List (List UInt8)) (p : List P.Chunk) (n m u v : Int) : Wk := ⟨m, u + (m - n), v + (m - n), p ++ [⟨sl b n m, sl b n m, sl b n m, false, sl b n m⟩], true⟩
theorem sl_snoc {b : List (List UInt8)} {n m : Int} {z : List UInt8} (n0 : 0 ≤ n) (hm : n ≤ m) (h : b[m.toNat]? = some z) : sl b n (m + 1) = sl b n m ++ [z] := by
  unfold sl
  rw [show (m + 1).toNat - n.toNat = (m.toNat - n.toNat) + 1 by omega, List.take_add_one, List.getElem?_drop, show n.toNat + (m.toNat - n.toNat) = m.toNat by omega, h]
  rfl
theorem run_first {b o t : List (List UInt8)} {n u v : Int} {s : Wk} {z : List UInt8} (n0 : 0 ≤ n) (h : b[n.toNat]? = some z) (hi : s.i ≤ n) (hj : s.j ≤ u) (hk : s.k ≤ v) (hu : (places b o)[n.toNat]? = some u) (hv : (places b t)[n.toNat]? = some v) (he : EndW b o t s) :
    keepW (put b o t s n u v) z = runC b (put b o t s n u v).out n (n + 1) u v := by
  have hs : (put b o t s n u v).op = false := by
    unfold put
    split
    · rfl
    · rename_i hq
      have e1 : s.i = n := by omega
      have e2 : s.j = u := by omega
      have e3 : s.k = v := by omega
      cases ho : s.op with
      | false => rfl
      | true => exact absurd ⟨by rw [e1, e2]; exact hu, by rw [e1, e3]; exact hv⟩ (he ho)
  have hx : sl b n (n + 1) = [z] := by
    rw [sl_snoc n0 (by omega) h]; simp [sl]
  obtain ⟨out, op, hp⟩ := put_form b o t s n u v
  rw [hp] at hs ⊢
  unfold keepW runC
  simp only at hs
  simp only [hs, hx, nilC, addL]
  simp
  omega
theorem run_next {b o t : List (List UInt8)} {p : List P.Chunk} {n m u v : Int} {z : List UInt8} (n0 : 0 ≤ n) (hm : n < m) (h : b[m.toNat]? = some z) :
    keepW (put b o t (runC b p n m u v) m (u + (m - n)) (v + (m - n))) z = runC b p n (m + 1) u v := by
  have hp : put b o t (runC b p n m u v) m (u + (m - n)) (v + (m - n)) = runC b p n m u v := by
    unfold put
    rw [if_neg (by simp only [runC]; omega)]
    rfl
  rw [hp]
  unfold keepW runC
  rw [sl_snoc n0 (by omega) h]
  simp only [if_true, List.dropLast_concat, List.getLastD_concat, addL, Wk.mk.injEq, and_true]
  exact ⟨trivial, by omega, by omega⟩
theorem pl_len (b o : List (List UInt8)) : ((pls (edits b o) 0).length : Int) = (b.length : Nat) := by
  have := places_len b o
  rw [places_pls] at this
  omega
theorem chunksR {b o t : List (List UInt8)} (hb : b.length ≤ 256) (ho : o.length ≤ 256) (ht : t.length ≤ 256) : Sh.rectoref11_Chunks b o t = some ((P.chunks b o t).map toRC, ⟨[], 0⟩) := by
  apply Ok.eq
  unfold Sh.rectoref11_Chunks
  have e1 : (edits b o).length ≤ 100000 := by have := edits_len b o; omega
  have e2 : (edits b t).length ≤ 100000 := by have := edits_len b t; omega
  rw [linesR hb ho, Option.bind_some, if_pos (by rfl), linesR hb ht, Option.bind_some, if_pos (by rfl)]
  dsimp only
  rw [keptR _ _ e1 (pl_len b o) (edits_ops b o), Option.bind_some, keptR _ _ e2 (pl_len b t) (edits_ops b t), Option.bind_some, ← places_pls, ← places_pls]
  have la := places_len b o
  have lb := places_len b t
  refine ok_iter (I := fun s => ∃ w : Wk, CInv b o t s.2.1 w ∧ w.i = s.2.1 ∧ w.j = s.2.2.1 ∧ w.k = s.2.2.2 ∧ s.1 = w.out.map toRC ∧ EndW b o t w) (μ := fun s => (b.length - s.2.1).toNat) ?_ ⟨⟨0, 0, 0, [], false⟩, cinv_start b o t, rfl, rfl, rfl, rfl, fun h => by cases h⟩
  rintro ⟨out, i, j, k⟩ ⟨w, hc, wi, wj, wk, hout, hend⟩
  dsimp only at hc wi wj wk hout ⊢
  refine ok_jnP (fun n => CInv b o t n w ∧ i ≤ n ∧ (n < b.length → ∃ u v, (places b o)[n.toNat]? = some u ∧ (places b t)[n.toNat]? = some v ∧ 0 ≤ u ∧ 0 ≤ v)) ?_ ?_
  · rintro n ⟨hcn, hin, huv⟩
    have n0 := hcn.n0
    have n1 := hcn.n1
    have j0 := hcn.j0
    have k0 := hcn.k0
    have j1 := hcn.j1
    have k1 := hcn.k1
    refine ok_jnP (fun q => (n = b.length ∧ q = ((o.length : Int), (t.length : Int))) ∨ (n < b.length ∧ (places b o)[n.toNat]? = some q.1 ∧ (places b t)[n.toNat]? = some q.2 ∧ 0 ≤ q.1 ∧ 0 ≤ q.2)) ?_ ?_
    · rintro ⟨u, v⟩ hq
      dsimp only at hq ⊢
      have hju : w.j ≤ u ∧ u ≤ o.length ∧ w.k ≤ v ∧ v ≤ t.length := by
        rcases hq with ⟨_, hq⟩ | ⟨hn, h1, h2, h3, h4⟩
        · cases hq; omega
        · have := hcn.ju n.toNat u (by omega) h1 h3
          have := hcn.kv n.toNat v (by omega) h2 h4
          have := places_range b o u (List.mem_of_getElem? h1) h3
          have := places_range b t v (List.mem_of_getElem? h2) h4
          omega
      obtain ⟨u0, u1, v0, v1⟩ := hju
      refine ok_jnP (fun out' => out' = (put b o t w n u v).out.map toRC) ?_ ?_
      · rintro out' rfl
        rw [ok_if]
        refine ⟨fun hn => ?_, fun hn => ?_⟩
        · refine ok_up.2 (ok_some.2 ?_)
          rcases hq with ⟨_, hq⟩ | ⟨hq, _⟩
          · cases hq
            unfold P.chunks
            rw [hcn.eq, hn]
            rfl
          · omega
        · have hnl : n < b.length := by omega
          obtain ⟨_, hu, hv, pu, pv⟩ := hq.resolve_left (fun h => by omega)
          obtain ⟨z, hz⟩ := gl_at n0 hnl
          have hf := run_first n0 hz (by omega) u0 v0 hu hv hend
          refine ok_jnP (fun m => n < m ∧ CInv b o t m (runC b (put b o t w n u v).out n m u v) ∧ EndW b o t (runC b (put b o t w n u v).out n m u v)) ?_ ?_
          · rintro m ⟨hm, hcm, hem⟩
            have m1 := hcm.n1
            have lm := hcm.len
            simp only [runC, List.length_append, List.length_cons, List.length_nil] at lm
            have jm := hcm.j1
            have km := hcm.k1
            simp only [runC] at jm km
            refine ok_gd.2 ⟨⟨by omega, by omega, by omega⟩, ok_lt.2 (ok_lt.2 (ok_gd.2 ⟨by simp only [List.length_map, List.length_cons, List.length_nil]; omega, ok_lt.2 ?_⟩))⟩
            refine ok_gd.2 ⟨⟨by omega, by omega⟩, ok_gd.2 ⟨⟨by omega, by omega⟩, ok_gd.2 ⟨⟨by omega, by omega⟩, ok_gd.2 ⟨⟨by omega, by omega⟩, ok_go.2 ⟨⟨_, hcm, rfl, ?_, ?_, ?_, hem⟩, by dsimp only; omega⟩⟩⟩⟩⟩
            · simp only [runC]; omega
            · simp only [runC]; omega
            · simp [runC, toRC, sl]
          · intro K hK
            refine ok_iter (I := fun m => (m = n) ∨ (n < m ∧ CInv b o t m (runC b (put b o t w n u v).out n m u v))) (μ := fun m => (b.length - m).toNat) ?_ (.inl rfl)
            intro m hm
            have m0 : n ≤ m := by omega
            by_cases hml : m < b.length
            · obtain ⟨x, hx⟩ := gl_at (l := places b o) (i := m) (by omega) (by omega)
              obtain ⟨y, hy⟩ := gl_at (l := places b t) (i := m) (by omega) (by omega)
              obtain ⟨l, hl⟩ := gl_at (l := b) (i := m) (by omega) hml
              have hx1 := places_range b o x (List.mem_of_getElem? hx)
              have hy1 := places_range b t y (List.mem_of_getElem? hy)
              rw [if_pos hml, gl_atv (by omega) hx, Option.bind_some, gl_atv (by omega) hy, Option.bind_some]
              by_cases hxy : x = u + (m - n) ∧ y = v + (m - n)
              · obtain ⟨ex, ey⟩ := hxy
                rw [if_pos (by omega), if_pos (by omega), Option.bind_some]
                refine ok_gd.2 ⟨⟨by omega, by omega⟩, ok_gd.2 ⟨⟨by omega, by omega⟩, ?_⟩⟩
                rw [if_pos (by omega), Option.bind_some]
                refine ok_gd.2 ⟨⟨by omega, by omega⟩, ok_gd.2 ⟨⟨by omega, by omega⟩, ?_⟩⟩
                rw [if_pos (by omega)]
                refine ok_gd.2 ⟨⟨by omega, by omega⟩, ok_go.2 ⟨.inr ⟨by omega, ?_⟩, by omega⟩⟩
                rcases hm with rfl | ⟨hm, hcm⟩
                · rw [← run_first n0 hl (by omega) u0 v0 hu hv hend]
                  exact cinv_keep hcn hb ho ht hu hv hl pu pv
                · have := cinv_keep hcm hb ho ht hx hy hl (by omega) (by omega)
                  rw [ex, ey, run_next n0 hm hl] at this
                  exact this
              · have hnm : n < m ∧ CInv b o t m (runC b (put b o t w n u v).out n m u v) := by
                  rcases hm with rfl | hm
                  · rw [hu] at hx; rw [hv] at hy; cases hx; cases hy; omega
                  · exact hm
                have hKm := hK m ⟨hnm.1, hnm.2, fun _ hh => hxy ⟨by
                  have h1 := hh.1
                  simp only [runC] at h1
                  rw [hx] at h1; exact Option.some.inj h1, by
                  have h1 := hh.2
                  simp only [runC] at h1
                  rw [hy] at h1; exact Option.some.inj h1⟩⟩
                rw [ok_if]
                refine ⟨fun x0 => ?_, fun _ => ok_up.2 hKm⟩
                rw [ok_if]
                refine ⟨fun y0 => ?_, fun _ => ok_up.2 hKm⟩
                rw [Option.bind_some]
                refine ok_gd.2 ⟨⟨by omega, by omega⟩, ok_gd.2 ⟨⟨by omega, by omega⟩, ?_⟩⟩
                rw [ok_if]
                refine ⟨fun q1 => ?_, fun _ => ok_up.2 hKm⟩
                rw [Option.bind_some]
                refine ok_gd.2 ⟨⟨by omega, by omega⟩, ok_gd.2 ⟨⟨by omega, by omega⟩, ?_⟩⟩
                rw [ok_if]
                refine ⟨fun q2 => absurd ⟨by omega, by omega⟩ hxy, fun _ => ok_up.2 hKm⟩
            · rw [if_neg hml]
              have hnm : n < m ∧ CInv b o t m (runC b (put b o t w n u v).out n m u v) := by
                rcases hm with rfl | hm
                · omega
                · exact hm
              refine ok_up.2 (hK m ⟨hnm.1, hnm.2, fun _ hh => ?_⟩)
              have h1 := at_lt (i := m) hh.1 (by omega)
              omega
      · intro K hK
        refine ok_jnP (fun x => x = decide (w.i < n ∨ w.j < u ∨ w.k < v)) ?_ ?_
        · rintro x rfl
          rw [ok_if]
          have lw := hcn.len
          have hi1 := hcn.i0
          refine ⟨fun h => ?_, fun h => hK _ ?_⟩
          · have h := of_decide_eq_true h
            refine ok_gd.2 ⟨⟨by omega, by omega, by omega⟩, ok_lt.2 (ok_gd.2 ⟨⟨by omega, by omega, by omega⟩, ok_lt.2 (ok_gd.2 ⟨⟨by omega, by omega, by omega⟩, ok_lt.2 ?_⟩)⟩)⟩
            rw [betweenR _ _ _ (by simp only [List.length_take, List.length_drop]; omega) (by simp only [List.length_take, List.length_drop]; omega), Option.bind_some]
            refine ok_lt.2 (ok_gd.2 ⟨by rw [hout]; simp only [List.length_map, List.length_cons, List.length_nil]; omega, ok_lt.2 (hK _ ?_)⟩)
            unfold put
            rw [if_pos h, hout, wi, wj, wk]
            simp [toRC, sl]
          · have h := of_decide_eq_false (by simpa using h : decide (w.i < n ∨ w.j < u ∨ w.k < v) = false)
            unfold put
            rw [if_neg h, hout]
        · intro K2 hK2
          rw [ok_if]
          refine ⟨fun h => hK2 _ (by rw [wi]; simp [h]), fun h => ?_⟩
          rw [ok_if]
          refine ⟨fun h2 => hK2 _ (by rw [wj]; simp [h2]), fun h2 => hK2 _ (by rw [wi, wj, wk]; simp [h, h2])⟩
    · intro K hK
      rw [ok_if]
      refine ⟨fun hn => ?_, fun hn => hK _ (.inl ⟨by omega, rfl⟩)⟩
      obtain ⟨u, v, hu, hv, pu, pv⟩ := huv hn
      rw [gl_atv n0 hu, Option.bind_some, gl_atv n0 hv, Option.bind_some]
      exact hK _ (.inr ⟨hn, hu, hv, pu, pv⟩)
  · intro K hK
    refine ok_iter (I := fun n => CInv b o t n w ∧ i ≤ n) (μ := fun n => (b.length - n).toNat) ?_ ⟨hc, by omega⟩
    rintro n ⟨hcn, hin⟩
    have n0 := hcn.n0
    have n1 := hcn.n1
    by_cases hn : n < b.length
    · obtain ⟨u, hu⟩ := gl_at (l := places b o) (i := n) n0 (by omega)
      obtain ⟨v, hv⟩ := gl_at (l := places b t) (i := n) n0 (by omega)
      refine ok_jnP (fun _ => ¬ (0 ≤ u ∧ 0 ≤ v)) ?_ ?_
      · intro _ hno
        exact ok_gd.2 ⟨⟨by omega, by omega⟩, ok_go.2 ⟨⟨cinv_pass hcn hu hv hn hno, by omega⟩, by omega⟩⟩
      · intro K2 hK2
        rw [if_pos hn, gl_atv n0 hu, Option.bind_some, ok_if]
        refine ⟨fun h => hK2 _ (by omega), fun h => ?_⟩
        rw [gl_atv n0 hv, Option.bind_some, ok_if]
        exact ⟨fun h2 => hK2 _ (by omega), fun h2 => ok_up.2 (hK n ⟨hcn, hin, fun _ => ⟨u, v, hu, hv, by omega, by omega⟩⟩)⟩
    · refine ok_jnP (fun _ => False) (fun _ h => h.elim) ?_
      intro K2 hK2
      rw [if_neg hn]
      exact ok_up.2 (hK n ⟨hcn, hin, fun h => absurd h hn⟩)
end Go.S
end

section
namespace Go.S
open Go Go.P
def tooLong (b : List (List UInt8)) : Int := if 256 < (b.length : Int) then 0 else 1
def linesS : List UInt8 := [108, 105, 110, 101, 115]
def Short (b o t : List (List UInt8)) : Prop := b.length ≤ 256 ∧ o.length ≤ 256 ∧ t.length ≤ 256
theorem linesR_long {a b : List (List UInt8)} (h : ¬ (a.length ≤ 256 ∧ b.length ≤ 256)) : Sh.rectoref11_Lines a b = some ([], ⟨[⟨linesS, tooLong a⟩], 4⟩) := by
  unfold Sh.rectoref11_Lines
  have h1 : Sh.rectoref11_long a b = some ⟨[⟨linesS, tooLong a⟩], 4⟩ := by
    unfold Sh.rectoref11_long tooLong
    by_cases ha : 256 < (a.length : Int)
    · rw [if_pos ha, if_pos ha]; rfl
    · rw [if_neg ha, if_neg ha, if_pos (by omega)]; rfl
  rw [h1, Option.bind_some, if_neg (by show ¬ (4 : Int) = 0; decide)]
theorem chunksR_long {b o t : List (List UInt8)} (h : ¬ Short b o t) : Sh.rectoref11_Chunks b o t = some ([], ⟨[⟨linesS, tooLong b⟩], 4⟩) := by
  unfold Short at h
  unfold Sh.rectoref11_Chunks
  by_cases h1 : b.length ≤ 256 ∧ o.length ≤ 256
  · rw [linesR h1.1 h1.2, Option.bind_some, if_pos (by rfl), linesR_long (a := b) (b := t) (by omega), Option.bind_some, if_neg (by show ¬ (4 : Int) = 0; decide)]
  · rw [linesR_long h1, Option.bind_some, if_neg (by show ¬ (4 : Int) = 0; decide)]
theorem made_long {a b : List (List UInt8)} (h : ¬ (a.length ≤ 256 ∧ b.length ≤ 256)) : Sh.diff_made a b = some (.inl ((), .fault linesS (tooLong a) (.no 4))) := by
  unfold Sh.diff_made tooLong
  by_cases ha : 256 < (a.length : Int)
  · rw [if_pos ha, if_pos ha]; rfl
  · rw [if_neg ha, if_neg ha, if_pos (by omega)]; rfl
theorem places_long {a b : List (List UInt8)} (h : ¬ (a.length ≤ 256 ∧ b.length ≤ 256)) : Sh.merge_places a b = some ([], .fault linesS (tooLong a) (.no 4)) := by
  unfold Sh.merge_places
  rw [if_neg h]
  unfold Sh.merge_places0 Sh.diff_Matches Sh.diff_Lines
  rw [made_long h]
  rfl
theorem chunks_long {b o t : List (List UInt8)} (h : ¬ Short b o t) : Sh.merge_Chunks b o t = some ([], .fault linesS (tooLong b) (.no 4)) := by
  unfold Short at h
  unfold Sh.merge_Chunks
  rw [if_neg h]
  unfold Sh.merge_Chunks0
  by_cases h1 : b.length ≤ 256 ∧ o.length ≤ 256
  · have e : Sh.merge_places b o = some (P.places b o, Err.nil) := if_pos h1
    rw [e, Option.bind_some, if_pos (by rfl), places_long (a := b) (b := t) (by omega), Option.bind_some, if_neg (by simp [Err.isNil])]
  · rw [places_long h1, Option.bind_some, if_neg (by simp [Err.isNil])]
theorem endedR (s : List UInt8) (hl : s.length ≤ 1048576) (h0 : s ≠ []) : Sh.rectoref11_ended s = some (if [10].isSuffixOf s = true then s else s ++ [10]) := by
  apply Ok.eq
  have hp : 0 < s.length := List.length_pos_iff.2 h0
  unfold Sh.rectoref11_ended
  have e := suffix_yes (s := s) (t := [10]) (by simp; omega)
  obtain ⟨z, hz⟩ := gl_at (l := s) (i := (s.length : Int) - 1) (by omega) (by omega)
  have hd : s.drop ((s.length : Int) - ([10] : List UInt8).length).toNat = [z] := by
    have hlt := (List.getElem?_eq_some_iff.1 hz).1
    have : ((s.length : Int) - ([10] : List UInt8).length).toNat = ((s.length : Int) - 1).toNat := by simp
    rw [this, List.drop_eq_getElem_cons hlt, (List.getElem?_eq_some_iff.1 hz).2, List.drop_of_length_le (by omega)]
  rw [hd] at e
  refine ok_jnP (fun x => x = decide ([z] = [10])) ?_ ?_
  · rintro x rfl
    rw [e, ok_if]
    refine ⟨fun h => ok_some.2 (by rw [if_pos h]), fun h => ok_gd.2 ⟨by simp only [List.length_cons, List.length_nil]; omega, ok_lt.2 (ok_some.2 (by rw [if_neg h]))⟩⟩
  · intro K hK
    rw [if_pos (by omega)]
    refine ok_gd.2 ⟨⟨by omega, by omega⟩, ?_⟩
    rw [gl_atv (by omega) hz, Option.bind_some]
    refine hK _ ?_
    have : ((z.toNat : Int) = 10) ↔ [z] = [10] := by
      constructor
      · intro h
        have : z = 10 := UInt8.toNat_inj.1 (by simpa using (by omega : z.toNat = 10))
        rw [this]
      · intro h
        cases h; rfl
    simp only [this]
theorem markedR (l : List (List UInt8)) (h1 : l.length ≤ 1048576) (h2 : (join l).length ≤ 1048575) : Sh.rectoref11_marked l = some (closed l) := by
  unfold Sh.rectoref11_marked
  rw [LP.rjoin_ok l h1 (by omega), Option.bind_some]
  by_cases h : join l = []
  · rw [if_pos h]; simp [closed, h]
  · rw [if_neg h, endedR _ (by omega) h, Option.bind_some]
    unfold closed
    by_cases hs : [10].isSuffixOf (join l) = true
    · rw [if_pos hs, if_pos (.inr hs)]
    · rw [if_neg hs, if_neg (by simp only [not_or]; exact ⟨h, hs⟩)]
theorem textR (b o t x y : List UInt8) (hb : b.length ≤ 10000) (ho : o.length ≤ 10000) (ht : t.length ≤ 10000) (hx : x.length ≤ 10000) (hy : y.length ≤ 10000) (hs : Short (P.spl b) (P.spl o) (P.spl t)) :
    Sh.rectoref11_Text b o t x y = some (tvs x y (chunks (P.spl b) (P.spl o) (P.spl t)), nclash (chunks (P.spl b) (P.spl o) (P.spl t)), ⟨[], 0⟩) := by
  obtain ⟨h1, h2, h3⟩ := hs
  have kb : (join (P.spl b)).length ≤ 10000 := by rw [join_spl]; exact hb
  have ko : (join (P.spl o)).length ≤ 10000 := by rw [join_spl]; exact ho
  have kt : (join (P.spl t)).length ≤ 10000 := by rw [join_spl]; exact ht
  have hl := (chunks_parts _ _ _ h1 h2 h3).2.2.2.2
  have hT := tvs_small h1 h2 h3 kb ko kt hx hy
  have hS := chunks_small h1 h2 h3 kb ko kt
  apply Ok.eq
  unfold Sh.rectoref11_Text
  rw [LP.rsplit_ok b (by omega), Option.bind_some, LP.rsplit_ok o (by omega), Option.bind_some, LP.rsplit_ok t (by omega), Option.bind_some, chunksR h1 h2 h3, Option.bind_some, if_pos (by rfl)]
  generalize chunks (P.spl b) (P.spl o) (P.spl t) = cs at *
  dsimp only
  have hlen : (cs.map toRC).length = cs.length := List.length_map ..
  rw [hlen]
  refine ok_iter (I := fun s => 0 ≤ s.2.2 ∧ s.2.2 ≤ cs.length ∧ s.1 = tvs x y (cs.take s.2.2.toNat) ∧ s.2.1 = nclash (cs.take s.2.2.toNat)) (μ := fun s => (cs.length - s.2.2).toNat) ?_ ⟨by simp, by simp, rfl, rfl⟩
  rintro ⟨s, n, k⟩ ⟨k0, k1, hacc, hn⟩
  dsimp only at k0 k1 hacc hn ⊢
  have hnl := nclash_le (cs.take k.toNat)
  have hlt := List.length_take_le k.toNat cs
  by_cases hk : k < cs.length
  · obtain ⟨c, hz⟩ := gl_at k0 hk
    obtain ⟨s1, s2, s3, s4, s5, s6⟩ := hS c (List.mem_of_getElem? hz)
    have ht := tvs_take (a := x) (b := y) k0 hz
    have hnc := nclash_take k0 hz
    have hle := tvs_take_le x y cs (k + 1).toNat
    rw [← hacc] at ht
    rw [← hn] at hnc
    rw [if_pos hk]
    refine ok_jnP (fun q => q.1 = tvs x y (cs.take (k + 1).toNat) ∧ q.2 = nclash (cs.take (k + 1).toNat)) ?_ ?_
    · rintro ⟨s', n'⟩ ⟨p1, p2⟩
      exact ok_gd.2 ⟨⟨by omega, by omega⟩, ok_go.2 ⟨⟨by dsimp only; omega, by dsimp only; omega, p1, p2⟩, by dsimp only; omega⟩⟩
    · intro K hK
      have hz' := gl_atv k0 (gl_map toRC hz)
      simp only [hz', Option.bind_some]
      by_cases hc : c.clash = true
      · have e : tv x y c = clashv c x y := if_pos hc
        rw [e] at ht
        rw [ht] at hle
        rw [if_pos hc] at hnc
        have e1 : Sh.rectoref11_marked (toRC c).ours = some (closed c.ours) := markedR c.ours (by omega) (by omega)
        have e2 : Sh.rectoref11_marked (toRC c).theirs = some (closed c.theirs) := markedR c.theirs (by omega) (by omega)
        rw [if_neg (by simp [toRC, hc])]
        simp only [e1, e2, Option.bind_some]
        simp only [List.length_append, clashv, List.length_cons, List.length_nil] at hle
        simp only [ok_gd, ok_lt, List.length_append, List.length_cons, List.length_nil]
        refine ⟨⟨by omega, by omega⟩, by omega, by omega, by omega, by omega, by omega, by omega, by omega, by omega, by omega, hK _ ⟨?_, by rw [hnc]⟩⟩
        rw [ht]
        simp [clashv]
      · have hcf : c.clash = false := by simpa using hc
        have e : tv x y c = join c.out := by unfold tv; rw [hcf]; rfl
        rw [e] at ht
        rw [ht, List.length_append] at hle
        rw [if_neg hc] at hnc
        have e1 : Sh.rectoref11_Join (toRC c).out = some (join c.out) := LP.rjoin_ok c.out (by omega) (by omega)
        rw [if_pos (by simp [toRC, hcf])]
        simp only [e1, Option.bind_some]
        exact ok_gd.2 ⟨by omega, ok_lt.2 (hK _ ⟨ht.symm, by dsimp only; omega⟩)⟩
  · rw [if_neg hk]
    rw [List.take_of_length_le (by omega)] at hacc hn
    exact ok_up.2 (ok_some.2 (by rw [hacc, hn]))
theorem textR_long (b o t x y : List UInt8) (hb : b.length ≤ 10000) (ho : o.length ≤ 10000) (ht : t.length ≤ 10000) (hs : ¬ Short (P.spl b) (P.spl o) (P.spl t)) :
    Sh.rectoref11_Text b o t x y = some ([], 0, ⟨[⟨linesS, tooLong (P.spl b)⟩], 4⟩) := by
  unfold Sh.rectoref11_Text
  rw [LP.rsplit_ok b (by omega), Option.bind_some, LP.rsplit_ok o (by omega), Option.bind_some, LP.rsplit_ok t (by omega), Option.bind_some, chunksR_long hs, Option.bind_some, if_neg (by show ¬ (4 : Int) = 0; decide)]
theorem text_long (b o t x y : List UInt8) (hb : b.length ≤ 10000) (ho : o.length ≤ 10000) (ht : t.length ≤ 10000) (hs : ¬ Short (P.spl b) (P.spl o) (P.spl t)) :
    Sh.merge_Text b o t x y = some ([], 0, .fault linesS (tooLong (P.spl b)) (.no 4)) := by
  unfold Sh.merge_Text
  rw [LP.split_ok b (by omega), Option.bind_some, LP.split_ok o (by omega), Option.bind_some, LP.split_ok t (by omega), Option.bind_some, chunks_long hs, Option.bind_some, if_neg (by simp [Err.isNil])]
end Go.S
end

section
namespace Go.S
open Go
def Fst {α : Type} (p : α → Bool) (l : List α) (r : Int) : Prop := (r = -1 ∧ ∀ z ∈ l, p z = false) ∨ ∃ k : Nat, r = k ∧ k < l.length ∧ (∀ z ∈ l.take k, p z = false) ∧ ∃ z, l[k]? = some z ∧ p z = true
theorem ixloop {α : Type} (p : α → Bool) (l : List α) (hb : l.length ≤ 1000000000) (F : α → Option Bool) (hF : ∀ z ∈ l, F z = some (p z)) (B : Int → Option (Int ⊕ Int))
    (hB : ∀ i, B i = if i < (l.length : Int) then (at_ l i).bind (fun z => (F z).bind (fun y => if y = true then up (some i) else gd (I64 (i + 1)) (go (i + 1)))) else up (some (-1))) : Ok (iter B 0) (Fst p l) := by
  refine ok_iter (I := fun i => 0 ≤ i ∧ i ≤ l.length ∧ ∀ z ∈ l.take i.toNat, p z = false) (μ := fun i => (l.length - i).toNat) ?_ ⟨by omega, by omega, by simp⟩
  rintro i ⟨h0, h1, h2⟩
  rw [hB]
  simp only [ok_if, ok_up, ok_bd, ok_some, ok_at]
  refine ⟨fun h => ?_, fun h => ?_⟩
  · obtain ⟨z, hz⟩ := at_get h0 h
    refine ⟨h0, z, hz, ?_⟩
    rw [hF z (List.mem_of_getElem? hz), ok_some]
    simp only [ok_if, ok_up, ok_gd, ok_go, ok_some]
    refine ⟨fun hp => .inr ⟨i.toNat, by omega, by omega, h2, z, hz, hp⟩, fun hp => ⟨⟨by omega, by omega⟩, ⟨by omega, by omega, fun y hy => ?_⟩, by omega⟩⟩
    rw [take_snoc h0 hz] at hy
    rcases List.mem_append.1 hy with q | q
    · exact h2 y q
    · rw [List.mem_singleton.1 q]; simpa using hp
  · rw [List.take_of_length_le (by omega)] at h2
    exact .inl ⟨rfl, h2⟩
theorem fst_any {α : Type} {p : α → Bool} {l : List α} {r : Int} (h : Fst p l r) : decide (0 ≤ r) = l.any p := by
  rcases h with ⟨rfl, h⟩ | ⟨k, rfl, hk, _, z, hz, hp⟩
  · have : l.any p = false := List.any_eq_false.2 fun z hz => by simp [h z hz]
    rw [this]; rfl
  · have : l.any p = true := List.any_eq_true.2 ⟨z, List.mem_of_getElem? hz, hp⟩
    rw [this]; simp
end Go.S
end

section
namespace Go.S
open Go
def goodN (n : Nat) : Bool := decide (97 ≤ n ∧ n ≤ 122) || decide (48 ≤ n ∧ n ≤ 57) || decide (n = 46) || decide (n = 45) || decide (n = 95)
theorem good_all : ∀ i : Fin 256, Sh.path_good ((i.val : Nat) : Int) = some (goodN i.val) ∧ Sh.rectoref1_good ((i.val : Nat) : Int) = some (goodN i.val) := by decide +kernel
theorem good_ok (z : UInt8) : Sh.path_good (z.toNat : Int) = some (goodN z.toNat) := (good_all ⟨z.toNat, z.toNat_lt⟩).1
def partS (s : List UInt8) : Bool := !(decide (s = []) || decide (s = [46]) || decide (s = [46, 46])) && s.all fun z => goodN z.toNat
theorem all_snoc {α : Type} (p : α → Bool) (l : List α) (z : α) : (l ++ [z]).all p = (l.all p && p z) := by simp
theorem all_false {α : Type} {p : α → Bool} {l : List α} {z : α} (hz : z ∈ l) (h : p z = false) : l.all p = false := by
  cases hq : l.all p with
  | false => rfl
  | true => rw [List.all_eq_true.1 hq z hz] at h; cases h
theorem part_ok {s : List UInt8} (hs : s.length ≤ 1000000000) : Sh.path_part s = some (partS s) := by
  apply Ok.eq
  unfold Sh.path_part partS
  refine ok_jnP (fun q => q = (decide (s = []) || decide (s = [46]) || decide (s = [46, 46]))) ?_ ?_
  · rintro q rfl
    generalize (decide (s = []) || decide (s = [46]) || decide (s = [46, 46])) = q
    simp only [ok_if, ok_some, ok_gd, ok_lt]
    refine ⟨fun h => by rw [h]; rfl, fun h => ⟨by omega, ?_⟩⟩
    have hq : q = false := by simpa using h
    subst hq
    rw [Bool.not_false, Bool.true_and]
    refine ok_iter (I := fun i => 0 ≤ i ∧ i ≤ s.length ∧ (s.take i.toNat).all (fun z => goodN z.toNat) = true) (μ := fun i => (s.length - i).toNat) ?_ ⟨by omega, by omega, by simp⟩
    rintro i ⟨i0, i1, i2⟩
    simp only [ok_if, ok_up, ok_bd, ok_gd, ok_go, ok_some, ok_at, good_ok]
    refine ⟨fun hi => ?_, fun hi => ?_⟩
    · obtain ⟨z, hz⟩ := at_get (l := s) i0 hi
      refine ⟨i0, z, hz, fun hb => ?_, fun hg => ⟨⟨by omega, by omega⟩, ⟨by omega, by omega, ?_⟩, by omega⟩⟩
      · exact (all_false (p := fun z : UInt8 => goodN z.toNat) (List.mem_of_getElem? hz) (by simpa using hb)).symm
      · rw [take_snoc i0 hz, all_snoc, i2]; simpa using hg
    · rw [← i2, show i.toNat = s.length by omega, List.take_length]
  · intro K hK
    simp only [ok_if]
    refine ⟨fun h => hK _ (by simp [h]), fun h1 => ⟨fun h => hK _ (by simp [h]), fun h2 => hK _ (by simp [h1, h2])⟩⟩
def checkP (p : List UInt8) : Int := if 64 < p.length then 4 else if (spl 47 p).all partS then 0 else 5
theorem pcheck_ok (p : List UInt8) : Sh.path_Check p = some (checkP p) := by
  apply Ok.eq
  unfold Sh.path_Check checkP
  simp only [ok_if, ok_some]
  refine ⟨fun h => by rw [if_pos (by omega)], fun h => ?_⟩
  rw [if_neg (by omega), split_ok 47 (by omega), Option.bind_some]
  have hpart := spl_part 47 p
  have hlen := spl_len 47 p
  have hcnt : p.count 47 ≤ p.length := List.count_le_length
  generalize spl 47 p = L at *
  refine ok_iter (I := fun i => 0 ≤ i ∧ i ≤ L.length ∧ (L.take i.toNat).all partS = true) (μ := fun i => (L.length - i).toNat) ?_ ⟨by omega, by omega, by simp⟩
  rintro i ⟨i0, i1, i2⟩
  simp only [ok_if, ok_up, ok_bd, ok_gd, ok_go, ok_some, ok_at]
  refine ⟨fun hi => ?_, fun hi => ?_⟩
  · obtain ⟨z, hz⟩ := at_get (l := L) i0 hi
    have := hpart z (List.mem_of_getElem? hz)
    refine ⟨i0, z, hz, Ok.of (part_ok (by omega)) ⟨fun hb => ?_, fun hg => ⟨⟨by omega, by omega⟩, ⟨by omega, by omega, ?_⟩, by omega⟩⟩⟩
    · rw [all_false (List.mem_of_getElem? hz) (by simpa using hb)]; rfl
    · rw [take_snoc i0 hz, all_snoc, i2]; simpa using hg
  · rw [show i.toNat = L.length by omega, List.take_length] at i2
    rw [i2]; rfl
def underS (p d : List UInt8) : Bool := if d = [] then !decide (p = []) else decide (d.length + 1 < p.length ∧ p.take (d.length + 1) = d ++ [47])
theorem under_ok {p d : List UInt8} (hd : d.length ≤ 1000000000) : Sh.path_Under p d = some (underS p d) := by
  apply Ok.eq
  unfold Sh.path_Under underS Sh.strings_HasPrefix Sh.internal_stringslite_HasPrefix
  simp only [ok_if, ok_some, ok_gd, ok_lt, ok_bd]
  refine ⟨fun h => by rw [if_pos h], fun h => ⟨⟨by omega, by omega⟩, fun hl => ⟨by simp; omega, ?_⟩, fun hl => ?_⟩⟩
  · rw [if_neg h]
    refine ⟨fun hp => ⟨⟨by omega, by simpa using hp⟩, ?_⟩, fun hp => ?_⟩
    · simp only [List.length_append, List.length_singleton]
      rw [show (((d.length + 1 : Nat)) : Int).toNat = d.length + 1 by omega]
      exact decide_eq_decide.2 ⟨fun q => ⟨by omega, q⟩, fun q => q.2⟩
    · simp at hp; omega
  · rw [if_neg h]
    symm; exact decide_eq_false (by omega)
def clashS (a b : List UInt8) : Bool := decide (a ≠ []) && decide (b ≠ []) && (underS a b || underS b a)
theorem clash_ok {a b : List UInt8} (ha : a.length ≤ 1000000000) (hb : b.length ≤ 1000000000) : Sh.path_Clash a b = some (clashS a b) := by
  apply Ok.eq
  unfold Sh.path_Clash clashS
  simp only [ok_if, ok_some, ok_bd, under_ok ha, under_ok hb]
  refine ⟨fun h => by simp [h], fun h => ⟨fun h2 => by simp [h2], fun h2 => ⟨fun h3 => by simp [h, h2, h3], fun h3 => by simp [h, h2, h3]⟩⟩⟩
end Go.S
end

section
namespace Go.S
open Go
set_option maxRecDepth 100000
theorem pcmp14 (a b : List UInt8) : Sh.path_Compare a b = some (if a < b then -1 else if b < a then 1 else 0) := by
  unfold Sh.path_Compare Sh.cmp_Compare_string Sh.cmp_isNaN_string
  simp only [Option.bind_some, decide_true, Bool.not_true, Bool.false_eq_true, if_false, Go.Proofs.bytesLess_eq, decide_eq_true_eq]
  by_cases h1 : a < b
  · simp [h1]
  · simp only [h1, if_false, decide_false, Bool.false_or]
    by_cases h2 : a = b
    · subst h2; simp [List.lt_irrefl]
    · have h3 : b < a := by
        by_cases q : b < a
        · exact q
        · exact absurd (List.le_antisymm (List.not_lt.1 q) (List.not_lt.1 h1)) h2
      simp [h2, h3]
theorem half_ok {s : Int} (h0 : 0 ≤ s) (h1 : s ≤ 4000000000) : IntKind.wrap .i64 (sHr .u64 (IntKind.wrap .u64 s) 1) = s / 2 := by
  have e1 : IntKind.wrap .u64 s = s := IntWalk.u64_in _ (by omega)
  rw [e1]
  have e2 : sHr .u64 s 1 = s / 2 := by
    unfold sHr
    show s.fdiv (2 ^ 1) = s / 2
    rw [Int.fdiv_eq_ediv_of_nonneg s (by decide)]
    rfl
  rw [e2]
  exact IntWalk.i64_in _ (by omega)
def R (l : List FilesFile) : Prop := l.Pairwise (fun a b => a.path < b.path)
theorem R.sub {l l' : List FilesFile} (h : R l) (s : l'.Sublist l) : R l' := List.Pairwise.sublist s h
theorem R.uniq {l : List FilesFile} (h : R l) {a b : FilesFile} (ha : a ∈ l) (hb : b ∈ l) (e : a.path = b.path) : a = b := by
  obtain ⟨i, hi⟩ := List.getElem?_of_mem ha
  obtain ⟨j, hj⟩ := List.getElem?_of_mem hb
  obtain ⟨hi1, hi2⟩ := List.getElem?_eq_some_iff.1 hi
  obtain ⟨hj1, hj2⟩ := List.getElem?_eq_some_iff.1 hj
  rcases Nat.lt_trichotomy i j with q | q | q
  · have := List.pairwise_iff_getElem.1 h i j hi1 hj1 q
    rw [hi2, hj2, e] at this
    exact absurd this (List.lt_irrefl _)
  · subst q; rw [← hi2, ← hj2]
  · have := List.pairwise_iff_getElem.1 h j i hj1 hi1 q
    rw [hi2, hj2, e] at this
    exact absurd this (List.lt_irrefl _)
theorem R.ext {l l' : List FilesFile} (h : R l) (h' : R l') (m : ∀ z, z ∈ l ↔ z ∈ l') : l = l' := by
  have nd : ∀ {l : List FilesFile}, R l → l.Nodup := fun {l} h => by
    unfold R at h
    exact List.Pairwise.imp (fun {a b} (q : a.path < b.path) (e : a = b) => List.lt_irrefl b.path (e ▸ q)) h
  refine List.Perm.eq_of_pairwise (le := fun a b => a.path ≤ b.path) (fun a b ha hb h1 h2 => h.uniq ha ((m b).2 hb) (List.le_antisymm h1 h2)) (h.imp fun q => List.le_of_lt q) (h'.imp fun q => List.le_of_lt q) ((List.perm_ext_iff_of_nodup (nd h) (nd h')).2 m)
def gt (l : List FilesFile) (p : List UInt8) : Option FilesFile := l.find? (fun f => decide (f.path = p))
theorem gt_some {l : List FilesFile} (h : R l) {p : List UInt8} {z : FilesFile} : gt l p = some z ↔ z ∈ l ∧ z.path = p := by
  unfold gt
  constructor
  · intro q
    exact ⟨List.mem_of_find?_eq_some q, by simpa using List.find?_some q⟩
  · rintro ⟨hz, rfl⟩
    cases hq : l.find? (fun f => decide (f.path = z.path)) with
    | none => have := List.find?_eq_none.1 hq z hz; simp at this
    | some y =>
      have h1 := List.mem_of_find?_eq_some hq
      have h2 : y.path = z.path := by simpa using List.find?_some hq
      rw [h.uniq h1 hz h2]
theorem gt_none {l : List FilesFile} {p : List UInt8} : gt l p = none ↔ ∀ z ∈ l, z.path ≠ p := by
  unfold gt
  rw [List.find?_eq_none]
  simp
structure At (x : List FilesFile) (p : List UInt8) (i : Int) : Prop where
  i0 : 0 ≤ i
  i1 : i ≤ x.length
  lo : ∀ f ∈ x.take i.toNat, f.path < p
  hi : ∀ f ∈ x.drop i.toNat, ¬ f.path < p
theorem R.take_lt {x : List FilesFile} (h : R x) {i : Nat} {z : FilesFile} (hz : x[i]? = some z) : ∀ f ∈ x.take i, f.path < z.path := fun f hf => by
  obtain ⟨j, hj⟩ := List.getElem?_of_mem hf
  rw [List.getElem?_take] at hj
  split at hj
  · next q =>
    obtain ⟨a1, a2⟩ := List.getElem?_eq_some_iff.1 hj
    obtain ⟨b1, b2⟩ := List.getElem?_eq_some_iff.1 hz
    have := List.pairwise_iff_getElem.1 h j i a1 b1 q
    rwa [a2, b2] at this
  · cases hj
theorem R.drop_gt {x : List FilesFile} (h : R x) {i : Nat} {z : FilesFile} (hz : x[i]? = some z) : ∀ f ∈ x.drop (i + 1), z.path < f.path := fun f hf => by
  obtain ⟨j, hj⟩ := List.getElem?_of_mem hf
  rw [List.getElem?_drop] at hj
  obtain ⟨a1, a2⟩ := List.getElem?_eq_some_iff.1 hj
  obtain ⟨b1, b2⟩ := List.getElem?_eq_some_iff.1 hz
  have := List.pairwise_iff_getElem.1 h i (i + 1 + j) b1 a1 (by omega)
  rwa [a2, b2] at this
theorem drop_cons' {α : Type} {x : List α} {i : Nat} {z : α} (hz : x[i]? = some z) : x.drop i = z :: x.drop (i + 1) := by
  obtain ⟨b1, b2⟩ := List.getElem?_eq_some_iff.1 hz
  rw [List.drop_eq_getElem_cons b1, b2]
theorem find14 {x : List FilesFile} (h : R x) (hb : x.length ≤ 100000000) (p : List UInt8) : Ok (Sh.files_Row_find x p) fun r => At x p r.1 ∧ (r.2 = true ↔ ∃ z, x[r.1.toNat]? = some z ∧ z.path = p) := by
  unfold Sh.files_Row_find Sh.slices_BinarySearchFunc_files_Row_files_File_string
  rw [ok_bd]
  refine ok_iter (I := fun t => 0 ≤ t.1 ∧ t.1 ≤ t.2 ∧ t.2 ≤ x.length ∧ (∀ f ∈ x.take t.1.toNat, f.path < p) ∧ (∀ f ∈ x.drop t.2.toNat, ¬ f.path < p)) (μ := fun t => (t.2 - t.1).toNat) ?_ ⟨by simp, by simp, by simp, by simp, by simp⟩
  rintro ⟨i, j⟩ ⟨i0, i1, i2, i3, i4⟩
  dsimp only at i0 i1 i2 i3 i4 ⊢
  simp only [ok_if, ok_up, ok_gd]
  refine ⟨fun hij => ⟨⟨by omega, by omega⟩, ?_⟩, fun hij => ?_⟩
  · rw [half_ok (by omega) (by omega)]
    obtain ⟨z, hz⟩ := at_get (l := x) (i := (i + j) / 2) (by omega) (by omega)
    rw [ok_bd, ok_at]
    refine ⟨by omega, z, hz, ?_⟩
    unfold Sh.files_Row_find_1
    rw [pcmp14, Option.bind_some, Option.bind_some]
    simp only [ok_if, ok_gd, ok_go]
    refine ⟨fun hc => ⟨⟨by omega, by omega⟩, ⟨by omega, by omega, by omega, fun f hf => ?_, i4⟩, by omega⟩, fun hc => ⟨⟨i0, by omega, by omega, i3, fun f hf => ?_⟩, by omega⟩⟩
    · have hzp : z.path < p := by
        by_cases q : z.path < p
        · exact q
        · rw [if_neg q] at hc; split at hc <;> omega
      rw [show ((i + j) / 2 + 1).toNat = ((i + j) / 2).toNat + 1 by omega, List.take_add_one, hz] at hf
      rcases List.mem_append.1 hf with q | q
      · exact List.lt_trans (h.take_lt hz f q) hzp
      · have : f = z := by simpa using q
        rw [this]; exact hzp
    · have hzp : ¬ z.path < p := fun q => hc (by rw [if_pos q]; omega)
      rw [drop_cons' hz] at hf
      rcases List.mem_cons.1 hf with q | q
      · rw [q]; exact hzp
      · intro hlt
        exact hzp (List.lt_trans (h.drop_gt hz f q) hlt)
  · have hji : j = i := by omega
    subst hji
    simp only [ok_bd, ok_at, ok_some]
    refine ⟨fun hl => ?_, fun hl => ⟨⟨i0, i2, i3, i4⟩, ?_⟩⟩
    · obtain ⟨z, hz⟩ := at_get (l := x) i0 hl
      refine ⟨i0, z, hz, ?_⟩
      unfold Sh.files_Row_find_1
      rw [pcmp14, Option.bind_some, ok_some]
      refine ⟨⟨i0, i2, i3, i4⟩, ?_⟩
      rw [decide_eq_true_eq]
      have hnl : ¬ z.path < p := i4 z (by rw [drop_cons' hz]; exact List.mem_cons_self ..)
      rw [if_neg hnl]
      constructor
      · intro q
        refine ⟨z, hz, ?_⟩
        by_cases hp : p < z.path
        · rw [if_pos hp] at q; omega
        · exact List.le_antisymm (List.not_lt.1 hp) (List.not_lt.1 hnl)
      · rintro ⟨y, hy, rfl⟩
        rw [hz] at hy; cases hy
        rw [if_neg (List.lt_irrefl _)]
    · simp only [Bool.false_eq_true, false_iff]
      rintro ⟨z, hz, _⟩
      have := get_lt hz
      omega
theorem At.none {x : List FilesFile} {p : List UInt8} {i : Int} (h : R x) (a : At x p i) (hn : ¬ ∃ z, x[i.toNat]? = some z ∧ z.path = p) : ∀ z ∈ x, z.path ≠ p := fun z hz e => by
  rw [← List.take_append_drop i.toNat x] at hz
  rcases List.mem_append.1 hz with q | q
  · exact List.lt_irrefl p (e ▸ a.lo z q)
  · obtain ⟨y, hy⟩ : ∃ y, x[i.toNat]? = some y := by
      cases hq : x[i.toNat]? with
      | some y => exact ⟨y, rfl⟩
      | none =>
        have := List.getElem?_eq_none_iff.1 hq
        rw [List.drop_of_length_le this] at q; cases q
    have hyp : y.path ≠ p := fun e' => hn ⟨y, hy, e'⟩
    rw [drop_cons' hy] at q
    rcases List.mem_cons.1 q with q | q
    · rw [q] at e; exact hyp e
    · have h1 := h.drop_gt hy z q
      rw [e] at h1
      have h2 := a.hi y (by rw [drop_cons' hy]; exact List.mem_cons_self ..)
      exact h2 h1
def getF (x : List FilesFile) (p : List UInt8) : FilesFile × Bool := match gt x p with | some f => (f, true) | none => (⟨[], 0, []⟩, false)
theorem getF_some {x : List FilesFile} {p : List UInt8} {f : FilesFile} (h : gt x p = some f) : getF x p = (f, true) := by unfold getF; rw [h]
theorem getF_none {x : List FilesFile} {p : List UInt8} (h : gt x p = none) : getF x p = (⟨[], 0, []⟩, false) := by unfold getF; rw [h]
theorem get14 {x : List FilesFile} (h : R x) (hb : x.length ≤ 100000000) (p : List UInt8) : Sh.files_Row_Get x p = some (getF x p) := by
  apply Ok.eq
  unfold Sh.files_Row_Get
  refine ok_bd.2 ((find14 h hb p).mono fun r ⟨ha, hr⟩ => ?_)
  simp only [ok_if, ok_some]
  refine ⟨fun hn => ?_, fun hn => ?_⟩
  · have hf : ¬ r.2 = true := by simpa using hn
    have := ha.none h fun q => hf (hr.2 q)
    rw [getF_none (gt_none.2 this)]
  · have hf : r.2 = true := by simpa using hn
    obtain ⟨z, hz, hp⟩ := hr.1 hf
    rw [ok_bd, ok_at]
    refine ⟨ha.i0, z, hz, ?_⟩
    rw [ok_some, getF_some ((gt_some h).2 ⟨List.mem_of_getElem? hz, hp⟩)]
end Go.S
end

section
namespace Go.S
open Go
def vF (f : FilesFile) : Prop := checkP f.path = 0 ∧ (f.mode = 1 ∨ f.mode = 2) ∧ f.data.length ≤ 4096
theorem checkP_len {p : List UInt8} (h : checkP p = 0) : p.length ≤ 64 := by
  unfold checkP at h
  split at h
  · omega
  · omega
structure GoodF (x : List FilesFile) : Prop where
  v : ∀ f ∈ x, vF f
  r : R x
  c : x.Pairwise (fun a b => clashS a.path b.path = false)
theorem GoodF.sub {l l' : List FilesFile} (h : GoodF l) (s : l'.Sublist l) : GoodF l' := ⟨fun f hf => h.v f (s.subset hf), h.r.sub s, List.Pairwise.sublist s h.c⟩
theorem fix14 (l : List FilesFile) (f : FilesFile) (hb : l.length ≤ 1000000000) (hl : ∀ z ∈ l, z.path.length ≤ 1000000000) (hf : f.path.length ≤ 1000000000) : Ok (Sh.slices_ContainsFunc_files_Row_files_File l f) (fun b => b = l.any fun y => clashS y.path f.path) := by
  unfold Sh.slices_ContainsFunc_files_Row_files_File Sh.slices_IndexFunc_files_Row_files_File
  rw [ok_bd]
  refine (ixloop (fun y => clashS y.path f.path) l hb (fun y => Sh.files_Row_wrong_1 y f) (fun y hy => ?_) _ fun i => rfl).mono fun r hr => ?_
  · unfold Sh.files_Row_wrong_1
    rw [clash_ok (hl y hy) hf]; rfl
  · rw [ok_some, fst_any hr]
theorem wrong14 {x : List FilesFile} (hb : x.length ≤ 1000000) (hl : ∀ z ∈ x, z.path.length ≤ 1000000000) {i : Int} (i0 : 0 ≤ i) (hi : i < x.length) {z : FilesFile} (hz : x[i.toNat]? = some z) :
    Ok (Sh.files_Row_wrong x i) fun e => e = 0 ↔ vF z ∧ (∀ y, 0 < i → x[(i - 1).toNat]? = some y → y.path < z.path) ∧ ∀ y ∈ x.take i.toNat, clashS y.path z.path = false := by
  unfold Sh.files_Row_wrong
  have hzm := List.mem_of_getElem? hz
  rw [ok_bd, ok_at]
  refine ⟨i0, z, hz, ?_⟩
  rw [pcheck_ok, Option.bind_some]
  by_cases hc : checkP z.path = 0
  · rw [if_pos hc]
    refine ok_jnP (fun b => b = false ↔ (z.mode = 1 ∨ z.mode = 2)) ?_ ?_
    · intro b hbm
      simp only [ok_if, ok_some]
      refine ⟨fun h => ⟨fun q => absurd q (by omega), fun ⟨⟨_, m, _⟩, _⟩ => by rw [hbm.2 m] at h; cases h⟩, fun h => ⟨fun hd => ⟨fun q => absurd q (by omega), fun ⟨⟨_, _, q⟩, _⟩ => absurd q (by omega)⟩, fun hd => ?_⟩⟩
      have hm := hbm.1 (by simpa using h)
      have hd' : z.data.length ≤ 4096 := by omega
      refine ok_jnP (fun b => b = false ↔ (∀ y, 0 < i → x[(i - 1).toNat]? = some y → y.path < z.path)) ?_ ?_
      · intro b hbm
        simp only [ok_if, ok_some]
        refine ⟨fun h => ⟨fun q => absurd q (by omega), fun ⟨_, q, _⟩ => by rw [hbm.2 q] at h; cases h⟩, fun h => ?_⟩
        have hr := hbm.1 (by simpa using h)
        simp only [ok_gd, ok_lt]
        refine ⟨⟨i0, by omega⟩, ok_bd.2 ((fix14 (x.take i.toNat) z (by rw [List.length_take]; omega) (fun y hy => hl y (List.mem_of_mem_take hy)) (hl z hzm)).mono fun c hcc => ?_)⟩
        simp only [ok_if, ok_some]
        refine ⟨fun h => ⟨fun q => absurd q (by omega), fun ⟨_, _, q⟩ => ?_⟩, fun h => ⟨fun _ => ⟨⟨hc, hm, hd'⟩, hr, fun y hy => ?_⟩, fun _ => (by first | rfl | trivial)⟩⟩
        · rw [hcc] at h
          obtain ⟨y, hy, hy2⟩ := List.any_eq_true.1 h
          rw [q y hy] at hy2; cases hy2
        · cases hq : clashS y.path z.path with
          | false => rfl
          | true => exact absurd (hcc.trans (List.any_eq_true.2 ⟨y, hy, hq⟩)) h
      · intro K hK
        simp only [ok_if, ok_gd]
        refine ⟨fun h => ⟨⟨by omega, by omega⟩, ?_⟩, fun h => hK _ ⟨fun _ y q => absurd q h, fun _ => rfl⟩⟩
        obtain ⟨y, hy⟩ := at_get (l := x) (i := i - 1) (by omega) (by omega)
        rw [ok_bd, ok_at]
        refine ⟨by omega, y, hy, ?_⟩
        rw [pcmp14, Option.bind_some]
        refine hK _ ?_
        rw [decide_eq_false_iff_not]
        constructor
        · intro q y' _ hy'
          rw [hy] at hy'; cases hy'
          by_cases q2 : y.path < z.path
          · exact q2
          · rw [if_neg q2] at q; split at q <;> omega
        · intro q
          rw [if_pos (q y h hy)]; omega
    · intro K hK
      simp only [ok_if]
      refine ⟨fun h => hK _ ⟨fun _ => .inl h, fun _ => rfl⟩, fun h => hK _ ⟨fun q => .inr (by simpa using q), fun q => ?_⟩⟩
      rcases q with q | q
      · exact absurd q h
      · simp [q]
  · rw [if_neg hc, ok_some]
    exact ⟨fun h => absurd h hc, fun ⟨⟨h, _⟩, _⟩ => absurd h hc⟩
theorem goodF_snoc {x : List FilesFile} {i : Int} (i0 : 0 ≤ i) {z : FilesFile} (hz : x[i.toNat]? = some z) (hg : GoodF (x.take i.toNat)) (hv : vF z) (hr : ∀ y, 0 < i → x[(i - 1).toNat]? = some y → y.path < z.path) (hc : ∀ y ∈ x.take i.toNat, clashS y.path z.path = false) : GoodF (x.take (i + 1).toNat) := by
  rw [take_snoc i0 hz]
  have hlt : ∀ a ∈ x.take i.toNat, a.path < z.path := fun a ha => by
    have hpos : 0 < i := by
      rcases Int.lt_or_le 0 i with q | q
      · exact q
      · rw [show i.toNat = 0 by omega] at ha; simp at ha
    have hil := get_lt hz
    obtain ⟨y, hy⟩ := at_get (l := x) (i := i - 1) (by omega) (by omega)
    have hyz := hr y hpos hy
    have he : x.take i.toNat = x.take (i - 1).toNat ++ [y] := by
      have := take_snoc (l := x) (i := i - 1) (by omega) hy
      rwa [show i - 1 + 1 = i by omega] at this
    rw [he] at ha
    rcases List.mem_append.1 ha with q | q
    · have hR := hg.r
      rw [he] at hR
      have := (List.pairwise_append.1 hR).2.2 a q y (List.mem_singleton_self _)
      exact List.lt_trans this hyz
    · rw [List.mem_singleton.1 q]; exact hyz
  refine ⟨fun f hf => ?_, List.pairwise_append.2 ⟨hg.r, List.pairwise_singleton _ _, fun a ha b hb => ?_⟩, List.pairwise_append.2 ⟨hg.c, List.pairwise_singleton _ _, fun a ha b hb => ?_⟩⟩
  · rcases List.mem_append.1 hf with q | q
    · exact hg.v f q
    · rw [List.mem_singleton.1 q]; exact hv
  · rw [List.mem_singleton.1 hb]; exact hlt a ha
  · rw [List.mem_singleton.1 hb]; exact hc a ha
theorem check14 {x : List FilesFile} (hb : x.length ≤ 1000000) (hl : ∀ z ∈ x, z.path.length ≤ 1000000000) : Ok (Sh.files_Row_Check x) fun e => e.isNil = true ↔ x.length ≤ 64 ∧ GoodF x := by
  unfold Sh.files_Row_Check
  simp only [ok_if, ok_some]
  refine ⟨fun h => ⟨fun q => (by cases q), fun q => absurd q.1 (by omega)⟩, fun h64 => ?_⟩
  refine ok_iter (I := fun i => 0 ≤ i ∧ i ≤ x.length ∧ GoodF (x.take i.toNat)) (μ := fun i => (x.length - i).toNat) ?_ ⟨by omega, by omega, ⟨fun f h => (by simp at h), by simp [R], by simp⟩⟩
  rintro i ⟨i0, i1, hg⟩
  simp only [ok_if, ok_up, ok_some]
  refine ⟨fun hi => ?_, fun hi => ?_⟩
  · obtain ⟨z, hz⟩ := at_get (l := x) i0 hi
    refine ok_bd.2 ((wrong14 hb hl i0 hi hz).mono fun e he => ?_)
    simp only [ok_if, ok_gd, ok_go, ok_up, ok_some]
    refine ⟨fun h => ⟨⟨by omega, by omega⟩, ⟨by omega, by omega, ?_⟩, by omega⟩, fun h => ⟨fun q => (by cases q), fun ⟨_, q⟩ => absurd (he.2 ?_) h⟩⟩
    · obtain ⟨a, b, c⟩ := he.1 h
      exact goodF_snoc i0 hz hg a b c
    · refine ⟨q.v z (List.mem_of_getElem? hz), fun y hpos hy => ?_, fun y hy => ?_⟩
      · exact q.r.take_lt hz y (List.mem_of_getElem? (i := (i - 1).toNat) (by rw [List.getElem?_take, if_pos (by omega)]; exact hy))
      · obtain ⟨j, hj⟩ := List.getElem?_of_mem hy
        rw [List.getElem?_take] at hj
        split at hj
        · next hlt =>
          have h1 := (List.getElem?_eq_some_iff.1 hj)
          have h2 := (List.getElem?_eq_some_iff.1 hz)
          have := List.pairwise_iff_getElem.1 q.c j i.toNat h1.1 h2.1 hlt
          rwa [h1.2, h2.2] at this
        · cases hj
  · rw [List.take_of_length_le (by omega)] at hg
    exact ⟨fun _ => ⟨by omega, hg⟩, fun _ => rfl⟩
end Go.S
end

section
namespace Go.S
open Go
end Go.S
end

section
namespace Go.S
open Go
end Go.S
end

section
namespace Go.S
open Go
def toF (f : FilesFile) : Rectoref14File := ⟨f.path, f.mode, f.data⟩
theorem mapF_at {l : List FilesFile} {i : Nat} {z : FilesFile} (h : l[i]? = some z) : (l.map toF)[i]? = some (toF z) := by rw [List.getElem?_map, h]; rfl
theorem of14 (l : List FilesFile) (hb : l.length ≤ 1000000000) : Sh.rectolaw14_Of l = some (l.map toF) := by
  apply Ok.eq
  unfold Sh.rectolaw14_Of
  refine ok_iter (I := fun t => 0 ≤ t.2 ∧ t.2 ≤ l.length ∧ t.1 = (l.take t.2.toNat).map toF) (μ := fun t => (l.length - t.2).toNat) ?_ ⟨by simp, by simp, by simp⟩
  rintro ⟨o, i⟩ ⟨i0, i1, i2⟩
  dsimp only at i0 i1 i2 ⊢
  have hol : o.length ≤ i.toNat := by rw [i2, List.length_map, List.length_take]; omega
  simp only [ok_if, ok_up, ok_bd, ok_at, ok_lt, ok_gd, ok_go, ok_some]
  refine ⟨fun hi => ?_, fun hi => ?_⟩
  · obtain ⟨z, hz⟩ := at_get (l := l) i0 hi
    refine ⟨i0, z, hz, i0, z, hz, i0, z, hz, by simp; omega, ⟨by omega, by omega⟩, ⟨by omega, by omega, ?_⟩, by omega⟩
    rw [i2, take_snoc i0 hz, List.map_append]; rfl
  · rw [i2, List.take_of_length_le (by omega)]
theorem getr14 (x : List FilesFile) (hb : x.length ≤ 1000000000) (p : List UInt8) : Sh.rectoref14_Get (x.map toF) p = some (toF (getF x p).1, (getF x p).2) := by
  apply Ok.eq
  unfold Sh.rectoref14_Get
  refine ok_iter (I := fun i => 0 ≤ i ∧ i ≤ x.length ∧ ∀ z ∈ x.take i.toNat, z.path ≠ p) (μ := fun i => (x.length - i).toNat) ?_ ⟨by omega, by omega, by simp⟩
  rintro i ⟨i0, i1, i2⟩
  simp only [ok_if, ok_up, ok_bd, ok_at, ok_gd, ok_go, ok_some, List.length_map]
  refine ⟨fun hi => ?_, fun hi => ?_⟩
  · obtain ⟨z, hz⟩ := at_get (l := x) i0 hi
    refine ⟨i0, toF z, mapF_at hz, fun hp => ⟨i0, toF z, mapF_at hz, ?_⟩, fun hp => ⟨⟨by omega, by omega⟩, ⟨by omega, by omega, fun y hy => ?_⟩, by omega⟩⟩
    · have hp : z.path = p := hp
      have : gt x p = some z := by
        unfold gt
        rw [← List.take_append_drop i.toNat x, List.find?_append, List.find?_eq_none.2 (fun y hy => by simpa using i2 y hy), drop_cons' hz]
        simp [hp]
      rw [getF_some this]
    · rw [take_snoc i0 hz] at hy
      rcases List.mem_append.1 hy with q | q
      · exact i2 y q
      · rw [List.mem_singleton.1 q]; exact hp
  · rw [List.take_of_length_le (by omega)] at i2
    rw [getF_none (gt_none.2 i2)]
    try rfl
end Go.S
end

section
namespace Go.S
open Go
end Go.S
end

section
namespace Go.S
open Go
theorem knownL16 : Sh.rectolaw16_known = some true := by decide +kernel
def oneT (r : List FilesFile) (p : List UInt8) : TmergeOne := ⟨(getF r p).1.path, (getF r p).1.mode, (getF r p).1.data, (getF r p).2⟩
theorem of16 {r : List FilesFile} (h : R r) (hb : r.length ≤ 1000000) (p : List UInt8) : Sh.tmerge_of r p = some (oneT r p) := by
  unfold Sh.tmerge_of
  rw [get14 h (by omega), Option.bind_some]; rfl
theorem oneT_some {r : List FilesFile} {p : List UInt8} {f : FilesFile} (h : gt r p = some f) : oneT r p = ⟨f.path, f.mode, f.data, true⟩ := by
  unfold oneT; rw [getF_some h]
theorem oneT_none {r : List FilesFile} {p : List UInt8} (h : gt r p = none) : oneT r p = ⟨[], 0, [], false⟩ := by
  unfold oneT; rw [getF_none h]
theorem oneT_eq {a b : List FilesFile} {p : List UInt8} : ((oneT a p).file_path = (oneT b p).file_path ∧ (oneT a p).file_mode = (oneT b p).file_mode ∧ (oneT a p).file_data = (oneT b p).file_data ∧ (oneT a p).is = (oneT b p).is) ↔ gt a p = gt b p := by
  cases ha : gt a p with
  | none =>
    cases hb : gt b p with
    | none => rw [oneT_none ha, oneT_none hb]; simp
    | some g => rw [oneT_none ha, oneT_some hb]; simp
  | some f =>
    cases hb : gt b p with
    | none => rw [oneT_some ha, oneT_none hb]; simp
    | some g => rw [oneT_some ha, oneT_some hb]; cases f; cases g; simp
def srcT (b o t : List FilesFile) (p : List UInt8) : List FilesFile := if gt o p = gt t p ∨ gt b p = gt t p then o else t
def Cln (b o t : List FilesFile) (p : List UInt8) : Prop := gt o p = gt t p ∨ gt b p = gt t p ∨ gt b p = gt o p
structure Bd (l : List FilesFile) : Prop where
  r : R l
  n : l.length ≤ 1000000
  p : ∀ f ∈ l, f.path.length ≤ 1000000
theorem one16 {b o t : List FilesFile} (hb : Bd b) (ho : Bd o) (ht : Bd t) {p : List UInt8} (hc : Cln b o t p) (x y : List UInt8) : Sh.tmerge_One p b o t x y = some ((getF (srcT b o t p) p).1, (getF (srcT b o t p) p).2, false) := by
  apply Ok.eq
  unfold Sh.tmerge_One
  rw [of16 hb.r hb.n, Option.bind_some, of16 ho.r ho.n, Option.bind_some, of16 ht.r ht.n, Option.bind_some]
  refine ok_jnP (fun v => v = decide (gt o p = gt t p ∨ gt b p = gt t p)) ?_ ?_
  · rintro v rfl
    by_cases q : gt o p = gt t p ∨ gt b p = gt t p
    · rw [if_pos (decide_eq_true q), ok_some]
      unfold srcT
      rw [if_pos q]; rfl
    · have q3 : gt b p = gt o p := by
        rcases hc with h | h | h
        · exact absurd (.inl h) q
        · exact absurd (.inr h) q
        · exact h
      rw [if_neg (by simp [q]), if_pos (oneT_eq.2 q3), ok_some]
      unfold srcT
      rw [if_neg q]; rfl
  · intro K hK
    by_cases q : gt o p = gt t p
    · rw [if_pos (oneT_eq.2 q)]
      exact hK _ (by simp [q])
    · rw [if_neg fun k => q (oneT_eq.1 k)]
      refine hK _ ?_
      rw [decide_eq_decide]
      rw [oneT_eq]
      simp [q]
theorem GoodF.bd {x : List FilesFile} (h : x.length ≤ 64 ∧ GoodF x) : Bd x := ⟨h.2.r, by omega, fun f hf => by have := checkP_len (h.2.v f hf).1; omega⟩
end Go.S
end

section
namespace Go.S
open Go
theorem like16 (a b : List FilesFile) (la : a.length ≤ 1000000000) (lb : b.length ≤ 1000000000) (p : List UInt8) : Sh.rectoref14_Like (a.map toF) (b.map toF) p = some (decide (gt a p = gt b p)) := by
  unfold Sh.rectoref14_Like
  rw [getr14 a la, getr14 b lb, Option.bind_some, Option.bind_some]
  cases ha : gt a p with
  | none =>
    rw [getF_none ha]
    cases hb : gt b p with
    | none => rw [getF_none hb]; simp
    | some g => rw [getF_some hb]; simp
  | some f =>
    rw [getF_some ha]
    cases hb : gt b p with
    | none => rw [getF_none hb]; simp
    | some g =>
      rw [getF_some hb]
      by_cases h : f = g
      · subst h; simp
      · have : ¬ (f.path = g.path ∧ f.mode = g.mode ∧ f.data = g.data) := fun q => h (by cases f; cases g; simpa using q)
        simp [toF, this, h]
theorem rone16 {b o t : List FilesFile} (hb : Bd b) (ho : Bd o) (ht : Bd t) {p : List UInt8} (hc : Cln b o t p) (x y : List UInt8) : Sh.rectoref14_One p (b.map toF) (o.map toF) (t.map toF) x y = some (toF (getF (srcT b o t p) p).1, (getF (srcT b o t p) p).2, false) := by
  apply Ok.eq
  have hbn := hb.n
  have hon := ho.n
  have htn := ht.n
  unfold Sh.rectoref14_One
  rw [getr14 b (by omega), Option.bind_some, getr14 o (by omega), Option.bind_some, getr14 t (by omega), Option.bind_some]
  refine ok_jnP (fun v => v = decide (gt o p = gt t p ∨ gt b p = gt t p)) ?_ ?_
  · rintro v rfl
    by_cases q : gt o p = gt t p ∨ gt b p = gt t p
    · rw [if_pos (decide_eq_true q), ok_some]
      unfold srcT
      rw [if_pos q]
    · have q3 : gt b p = gt o p := by
        rcases hc with h | h | h
        · exact absurd (.inl h) q
        · exact absurd (.inr h) q
        · exact h
      rw [if_neg (by simp [q]), like16 b o (by omega) (by omega), Option.bind_some, if_pos (decide_eq_true q3), ok_some]
      unfold srcT
      rw [if_neg q]
  · intro K hK
    rw [like16 o t (by omega) (by omega), Option.bind_some]
    by_cases q : gt o p = gt t p
    · rw [if_pos (decide_eq_true q)]
      exact hK _ (by simp [q])
    · rw [if_neg (by simp [q]), like16 b t (by omega) (by omega), Option.bind_some]
      refine hK _ ?_
      rw [decide_eq_decide]
      simp [q]
end Go.S
end

section
namespace Go.S
open Go
def Res {α : Type} (x : List α) (code : Int → α → Int) (r : Option (Int × Int)) : Prop :=
  (r = none ∧ ∀ (k : Nat) z, x[k]? = some z → code k z = 0) ∨ ∃ (k : Nat) (z : α), r = some ((k : Int), code k z) ∧ x[k]? = some z ∧ code k z ≠ 0 ∧ ∀ (j : Nat) y, j < k → x[j]? = some y → code j y = 0
theorem Res.uniq {α : Type} {x : List α} {code : Int → α → Int} {r r' : Option (Int × Int)} (h : Res x code r) (h' : Res x code r') : r = r' := by
  rcases h with ⟨rfl, h⟩ | ⟨k, z, rfl, hz, hc, hj⟩
  · rcases h' with ⟨rfl, _⟩ | ⟨k, z, rfl, hz, hc, _⟩
    · rfl
    · exact absurd (h k z hz) hc
  · rcases h' with ⟨rfl, h'⟩ | ⟨k', z', rfl, hz', hc', hj'⟩
    · exact absurd (h' k z hz) hc
    · rcases Nat.lt_trichotomy k k' with q | q | q
      · exact absurd (hj' k z q hz) hc
      · subst q; rw [hz] at hz'; cases hz'; rfl
      · exact absurd (hj k' z' q hz') hc'
theorem Res.loop {α R : Type} {x : List α} (code : Int → α → Int) (B : Int → Option (Int ⊕ R)) (out : Option (Int × Int) → R)
    (hB : ∀ (i : Int) z, 0 ≤ i → i < x.length → x[i.toNat]? = some z → Ok (B i) fun y => (code i z = 0 ∧ y = .inl (i + 1)) ∨ (code i z ≠ 0 ∧ y = .inr (out (some (i, code i z)))))
    (hE : B (x.length : Int) = up (some (out none))) : Ok (iter B 0) fun e => ∃ r, Res x code r ∧ e = out r := by
  refine ok_iter (I := fun i => 0 ≤ i ∧ i ≤ x.length ∧ ∀ (j : Nat) y, (j : Int) < i → x[j]? = some y → code j y = 0) (μ := fun i => (x.length - i).toNat) ?_ ⟨by omega, by omega, fun j y h => by omega⟩
  rintro i ⟨i0, i1, i2⟩
  by_cases hi : i < x.length
  · obtain ⟨z, hz⟩ := gl_at i0 hi
    have ei : ((i.toNat : Nat) : Int) = i := by omega
    refine (hB i z i0 hi hz).mono ?_
    rintro y (⟨hc, rfl⟩ | ⟨hc, rfl⟩)
    · refine ⟨⟨by omega, by omega, fun j y hj hy => ?_⟩, by omega⟩
      by_cases q : (j : Int) < i
      · exact i2 j y q hy
      · have : j = i.toNat := by omega
        subst this
        rw [hz] at hy; cases hy
        rw [ei]; exact hc
    · refine ⟨_, .inr ⟨i.toNat, z, ?_, hz, ?_, fun j y hj hy => i2 j y (by omega) hy⟩, rfl⟩
      · rw [ei]
      · rw [ei]; exact hc
  · have e : i = x.length := by omega
    subst e
    rw [hE]
    refine ok_up.2 (ok_some.2 ⟨none, .inl ⟨rfl, fun k z hz => i2 k z ?_ hz⟩, rfl⟩)
    have := (List.getElem?_eq_some_iff.1 hz).1
    omega
end Go.S
end

section
namespace Go.S
open Go Go.P
def modeV (x y z : TmergeOne) : Int := if x.is = true ∧ x.file_mode = y.file_mode then z.file_mode else y.file_mode
theorem mode_ok (x y z : TmergeOne) : Sh.tmerge_mode x y z = some (modeV x y z) := by
  unfold Sh.tmerge_mode jn modeV
  cases hx : x.is with
  | true => by_cases h : x.file_mode = y.file_mode <;> simp [h]
  | false => simp
def oF (x : TmergeOne) : Rectoref14File := ⟨x.file_path, x.file_mode, x.file_data⟩
def Dt (x : TmergeOne) : Prop := x.file_data.length ≤ 10000
theorem both_same {x y z : TmergeOne} {a b : List UInt8} (hx : Dt x) (hy : Dt y) (hz : Dt z) (ha : a.length ≤ 10000) (hb : b.length ≤ 10000) :
    ∃ f cl, Sh.tmerge_both x y z a b = some (f, cl) ∧ Sh.rectoref14_both (oF x) x.is (oF y) (oF z) a b = some (toF f, cl) ∧ f.path = y.file_path := by
  unfold Dt at hx hy hz
  have text : ∃ s n e w, Sh.merge_Text x.file_data y.file_data z.file_data a b = some (s, n, e) ∧ Sh.rectoref11_Text x.file_data y.file_data z.file_data a b = some (s, n, w) ∧ (e.isNil = true ↔ w.err = 0) := by
    by_cases h : Short (P.spl x.file_data) (P.spl y.file_data) (P.spl z.file_data)
    · exact ⟨_, _, _, _, LP.text_small _ _ _ _ _ hx hy hz h.1 h.2.1 h.2.2 ha hb, textR _ _ _ _ _ hx hy hz ha hb h, by simp [Err.isNil]⟩
    · exact ⟨_, _, _, _, text_long _ _ _ _ _ hx hy hz h, textR_long _ _ _ _ _ hx hy hz h, by simp [Err.isNil]⟩
  obtain ⟨s, n, e, w, t1, t2, t3⟩ := text
  unfold Sh.tmerge_both Sh.rectoref14_both
  rw [mode_ok, Option.bind_some]
  unfold jn
  have hm : (if x.is = true then (if decide (x.file_mode = y.file_mode) = true then (some z.file_mode : Option Int) else some y.file_mode) else some y.file_mode) = some (modeV x y z) := by
    unfold modeV
    cases hx : x.is with
    | true => by_cases h : x.file_mode = y.file_mode <;> simp [h]
    | false => simp
  by_cases h1 : y.file_data = z.file_data
  · refine ⟨⟨y.file_path, modeV x y z, y.file_data⟩, false, ?_, ?_, rfl⟩
    · simp [h1]
    · cases hx : x.is with
      | true => by_cases h : x.file_mode = y.file_mode <;> simp [oF, toF, h, h1, modeV, hx]
      | false => simp [oF, toF, h1, modeV, hx]
  · cases hi : x.is with
    | true =>
      by_cases h2 : z.file_data = x.file_data
      · have h3 : ¬ y.file_data = x.file_data := fun h => h1 (by rw [h, h2])
        refine ⟨⟨y.file_path, modeV x y z, y.file_data⟩, false, ?_, ?_, rfl⟩
        · simp [h1, h2]
        · by_cases h : x.file_mode = y.file_mode <;> simp [oF, toF, h, h1, h2, h3, modeV, hi]
      · by_cases h3 : y.file_data = x.file_data
        · refine ⟨⟨y.file_path, modeV x y z, z.file_data⟩, false, ?_, ?_, rfl⟩
          · simp [h1, h2, h3]
          · by_cases h : x.file_mode = y.file_mode <;> simp [oF, toF, h, h1, h2, h3, modeV, hi]
        · by_cases h4 : w.err = 0
          · by_cases h5 : (4096 : Int) < s.length
            · refine ⟨⟨y.file_path, modeV x y z, y.file_data⟩, true, ?_, ?_, rfl⟩
              · simp [h1, h2, h3, t1, t3.2 h4, h5]
              · by_cases h : x.file_mode = y.file_mode <;> simp [oF, toF, h, h1, h2, h3, modeV, hi, t2, h4, h5]
            · refine ⟨⟨y.file_path, modeV x y z, s⟩, decide (0 < n), ?_, ?_, rfl⟩
              · simp [h1, h2, h3, t1, t3.2 h4, h5]
              · by_cases h : x.file_mode = y.file_mode <;> simp [oF, toF, h, h1, h2, h3, modeV, hi, t2, h4, h5]
          · have h6 : e.isNil = false := by cases he : e.isNil with | false => rfl | true => exact absurd (t3.1 he) h4
            refine ⟨⟨y.file_path, modeV x y z, y.file_data⟩, true, ?_, ?_, rfl⟩
            · simp [h1, h2, h3, t1, h6]
            · by_cases h : x.file_mode = y.file_mode <;> simp [oF, toF, h, h1, h2, h3, modeV, hi, t2, h4]
    | false =>
      by_cases h4 : w.err = 0
      · by_cases h5 : (4096 : Int) < s.length
        · refine ⟨⟨y.file_path, modeV x y z, y.file_data⟩, true, ?_, ?_, rfl⟩
          · simp [h1, t1, t3.2 h4, h5]
          · simp [oF, toF, h1, modeV, hi, t2, h4, h5]
        · refine ⟨⟨y.file_path, modeV x y z, s⟩, decide (0 < n), ?_, ?_, rfl⟩
          · simp [h1, t1, t3.2 h4, h5]
          · simp [oF, toF, h1, modeV, hi, t2, h4, h5]
      · have h6 : e.isNil = false := by cases he : e.isNil with | false => rfl | true => exact absurd (t3.1 he) h4
        refine ⟨⟨y.file_path, modeV x y z, y.file_data⟩, true, ?_, ?_, rfl⟩
        · simp [h1, t1, h6]
        · simp [oF, toF, h1, modeV, hi, t2, h4]
theorem one_same {b o t : List FilesFile} (hb : Bd b) (ho : Bd o) (ht : Bd t) (db : ∀ f ∈ b, f.data.length ≤ 10000) (dO : ∀ f ∈ o, f.data.length ≤ 10000) (dt : ∀ f ∈ t, f.data.length ≤ 10000) (p : List UInt8) {x y : List UInt8} (hx : x.length ≤ 10000) (hy : y.length ≤ 10000) :
    ∃ f th cl, Sh.tmerge_One p b o t x y = some (f, th, cl) ∧ Sh.rectoref14_One p (b.map toF) (o.map toF) (t.map toF) x y = some (toF f, th, cl) ∧ (th = true → f.path = p) := by
  have gp : ∀ {r : List FilesFile} {f : FilesFile}, gt r p = some f → f.path = p := fun h => by simpa using List.find?_some h
  have gm : ∀ {r : List FilesFile} {f : FilesFile}, gt r p = some f → f ∈ r := fun h => List.mem_of_find?_eq_some h
  by_cases hc : Cln b o t p
  · refine ⟨_, _, _, one16 hb ho ht hc x y, rone16 hb ho ht hc x y, fun h => ?_⟩
    cases hg : gt (srcT b o t p) p with
    | none => rw [getF_none hg] at h; cases h
    | some f => rw [getF_some hg]; exact gp hg
  · unfold Cln at hc
    simp only [not_or] at hc
    obtain ⟨h1, h2, h3⟩ := hc
    have hbn := hb.n
    have hon := ho.n
    have htn := ht.n
    have e1 : (oneT o p).is = (gt o p).isSome ∧ (oneT t p).is = (gt t p).isSome := by
      constructor
      · cases hg : gt o p with
        | none => rw [oneT_none hg]; rfl
        | some f => rw [oneT_some hg]; rfl
      · cases hg : gt t p with
        | none => rw [oneT_none hg]; rfl
        | some f => rw [oneT_some hg]; rfl
    have dd : ∀ {r : List FilesFile}, (∀ f ∈ r, f.data.length ≤ 10000) → Dt (oneT r p) := fun {r} h => by
      unfold Dt
      cases hg : gt r p with
      | none => rw [oneT_none hg]; simp
      | some f => rw [oneT_some hg]; exact h f (gm hg)
    have tm : ∀ (R : Option (FilesFile × Bool × Bool)), (if (gt o p).isSome = true ∧ (gt t p).isSome = true then (Sh.tmerge_both (oneT b p) (oneT o p) (oneT t p) x y).bind (fun q => some (⟨q.1.path, q.1.mode, q.1.data⟩, true, q.2)) else if (gt o p).isSome = true then some (⟨(oneT o p).file_path, (oneT o p).file_mode, (oneT o p).file_data⟩, true, true) else some (⟨(oneT t p).file_path, (oneT t p).file_mode, (oneT t p).file_data⟩, true, true)) = R → Sh.tmerge_One p b o t x y = R := fun R hR => by
      unfold Sh.tmerge_One jn
      dsimp only
      rw [of16 hb.r hb.n, Option.bind_some, of16 ho.r ho.n, Option.bind_some, of16 ht.r ht.n, Option.bind_some]
      rw [if_neg (fun k => h1 (oneT_eq.1 k)), if_neg (by rw [decide_eq_true_eq]; exact fun k => h2 (oneT_eq.1 k)), if_neg (fun k => h3 (oneT_eq.1 k)), e1.1, e1.2, ← hR]
      cases gt o p <;> cases gt t p <;> simp
    have rm : ∀ (R : Option (Rectoref14File × Bool × Bool)), (if (gt o p).isSome = true ∧ (gt t p).isSome = true then (Sh.rectoref14_both (oF (oneT b p)) (oneT b p).is (oF (oneT o p)) (oF (oneT t p)) x y).bind (fun q => some (⟨q.1.path, q.1.mode, q.1.data⟩, true, q.2)) else if (gt o p).isSome = true then some (oF (oneT o p), true, true) else some (oF (oneT t p), (gt t p).isSome, true)) = R → Sh.rectoref14_One p (b.map toF) (o.map toF) (t.map toF) x y = R := fun R hR => by
      unfold Sh.rectoref14_One jn
      dsimp only
      rw [getr14 b (by omega), Option.bind_some, getr14 o (by omega), Option.bind_some, getr14 t (by omega), Option.bind_some]
      rw [like16 o t (by omega) (by omega), Option.bind_some, if_neg (by simp [h1]), like16 b t (by omega) (by omega), Option.bind_some, if_neg (by simp [h2]), like16 b o (by omega) (by omega), Option.bind_some, if_neg (by simp [h3]), ← hR]
      cases ho' : gt o p <;> cases ht' : gt t p <;> simp [getF, ho', ht', oF, oneT, toF]
    obtain ⟨f, cl, k1, k2, k3⟩ := both_same (dd db) (dd dO) (dd dt) hx hy
    cases hgo : gt o p with
    | some g =>
      cases hgt : gt t p with
      | some g' =>
        refine ⟨f, true, cl, tm _ ?_, rm _ ?_, fun _ => ?_⟩
        · rw [hgo, hgt, if_pos ⟨rfl, rfl⟩, k1]; rfl
        · rw [hgo, hgt, if_pos ⟨rfl, rfl⟩, k2]; rfl
        · rw [k3, oneT_some hgo]; exact gp hgo
      | none =>
        refine ⟨g, true, true, tm _ ?_, rm _ ?_, fun _ => gp hgo⟩
        · rw [hgo, hgt, if_neg (by simp), if_pos (by rfl), oneT_some hgo]
        · rw [hgo, hgt, if_neg (by simp), if_pos (by rfl), oneT_some hgo]; rfl
    | none =>
      cases hgt : gt t p with
      | some g' =>
        refine ⟨g', true, true, tm _ ?_, rm _ ?_, fun _ => gp hgt⟩
        · rw [hgo, hgt, if_neg (by simp), if_neg (by simp), oneT_some hgt]
        · rw [hgo, hgt, if_neg (by simp), if_neg (by simp), oneT_some hgt]; rfl
      | none => exact absurd (by rw [hgo, hgt]) h1
end Go.S
end

section
namespace Go.S
open Go Go.P
def resW (code : List FilesFile → Int → FilesFile → Int) (l : List FilesFile) (r : Option (Int × Int)) : Prop := (64 < l.length ∧ r = some (64, 4)) ∨ (l.length ≤ 64 ∧ Res l (code l) r)
theorem resW.uniq {code : List FilesFile → Int → FilesFile → Int} {l : List FilesFile} {r r' : Option (Int × Int)} (h : resW code l r) (h' : resW code l r') : r = r' := by
  rcases h with ⟨h, rfl⟩ | ⟨h, q⟩
  · rcases h' with ⟨_, rfl⟩ | ⟨h', _⟩
    · rfl
    · omega
  · rcases h' with ⟨h', rfl⟩ | ⟨_, q'⟩
    · omega
    · exact q.uniq q'
end Go.S
end

section
namespace Go.S
open Go Go.P
end Go.S
end

section
namespace Go.S
open Go
theorem few16 (l : List FilesFile) : Ok (Sh.rectolaw14_Few l) fun b => b = true → l.length ≤ 80 ∧ ∀ f ∈ l, f.path.length ≤ 100 ∧ f.data.length ≤ 5000 := by
  unfold Sh.rectolaw14_Few
  simp only [ok_if, ok_some]
  refine ⟨fun _ h => (by cases h), fun hl => ?_⟩
  refine gl_chk l (fun f => f.path.length ≤ 100 ∧ f.data.length ≤ 5000) _ ?_ ?_
  · intro i z i0 hi hz _
    rw [if_pos hi]
    refine ok_jnP (fun b => b = false → z.path.length ≤ 100 ∧ z.data.length ≤ 5000) ?_ ?_
    · intro b hb
      rw [ok_if]
      exact ⟨fun _ => ok_up.2 (ok_some.2 (.inr ⟨false, rfl, fun h => (by cases h)⟩)), fun q => ok_gd.2 ⟨⟨by omega, by omega⟩, ok_go.2 (.inl ⟨rfl, hb (by simpa using q)⟩)⟩⟩
    · intro K hK
      rw [gl_atv i0 hz, Option.bind_some, ok_if]
      refine ⟨fun _ => hK _ fun h => (by cases h), fun q => ?_⟩
      rw [Option.bind_some]
      exact hK _ fun h => ⟨by omega, by have := of_decide_eq_false h; omega⟩
  · intro h
    rw [if_neg (by omega)]
    exact up_up (ok_some.2 fun _ => ⟨by omega, h⟩)
theorem short16 (l : List FilesFile) (h : l.length ≤ 80 ∧ ∀ f ∈ l, f.path.length ≤ 100 ∧ f.data.length ≤ 5000) : Ok (Sh.rectolaw16_short l) fun _ => True := by
  unfold Sh.rectolaw16_short
  rw [ok_if]
  refine ⟨fun _ => ?_, fun _ => ?_⟩
  · rw [ok_if]
    exact ⟨fun _ => ok_some.2 trivial, fun _ => ok_some.2 trivial⟩
  · refine ok_iter (I := fun t => 0 ≤ t.2 ∧ t.2 ≤ l.length ∧ 0 ≤ t.1 ∧ t.1 ≤ t.2 * 5000) (μ := fun t => (l.length - t.2).toNat) ?_ ⟨by simp, by simp, by simp, by simp⟩
    rintro ⟨n, i⟩ ⟨i0, i1, n0, n1⟩
    dsimp only at i0 i1 n0 n1 ⊢
    by_cases hi : i < l.length
    · obtain ⟨z, hz⟩ := gl_at i0 hi
      have hd := (h.2 z (List.mem_of_getElem? hz)).2
      have e : (i + 1) * 5000 = i * 5000 + 5000 := by rw [Int.add_mul]; omega
      rw [if_pos hi, gl_atv i0 hz, Option.bind_some]
      refine ok_gd.2 ⟨⟨by omega, by omega⟩, ok_jnP (fun _ => True) ?_ ?_⟩
      · intro b _
        rw [ok_if]
        exact ⟨fun _ => ok_up.2 (ok_some.2 trivial), fun _ => ok_gd.2 ⟨⟨by omega, by omega⟩, ok_go.2 ⟨⟨by dsimp only; omega, by dsimp only; omega, by dsimp only; omega, by dsimp only; omega⟩, by dsimp only; omega⟩⟩⟩
      · intro K hK
        rw [Option.bind_some, ok_if]
        refine ⟨fun _ => ?_, fun _ => hK _ trivial⟩
        rw [Option.bind_some]
        exact hK _ trivial
    · rw [if_neg hi]
      refine ok_up.2 ?_
      rw [ok_if]
      exact ⟨fun _ => ok_some.2 trivial, fun _ => ok_some.2 trivial⟩
def F16 (l : List FilesFile) : Prop := l.length ≤ 80 ∧ ∀ f ∈ l, f.path.length ≤ 100 ∧ f.data.length ≤ 5000
theorem treesOne_ok (p : List UInt8) (b o t : List FilesFile) : Sh.rectolaw16_TreesOne p b o t = some true := by
  apply Ok.eq
  unfold Sh.rectolaw16_TreesOne
  rw [knownL16, Option.bind_some, if_neg (by simp)]
  refine ok_jnP (fun c => c = false → (F16 b ∧ GoodF b) ∧ (F16 o ∧ GoodF o) ∧ (F16 t ∧ GoodF t)) ?_ ?_
  · intro c hc
    rw [ok_if]
    refine ⟨fun _ => ok_some.2 rfl, fun q => ?_⟩
    obtain ⟨⟨hb, gb⟩, ⟨ho, go⟩, ⟨ht, gt⟩⟩ := hc (by simpa using q)
    have dd : ∀ {l : List FilesFile}, F16 l → ∀ f ∈ l, f.data.length ≤ 10000 := fun h f hf => by have := (h.2 f hf).2; omega
    have bd : ∀ {l : List FilesFile}, F16 l → GoodF l → Bd l := fun h g => ⟨g.r, by have := h.1; omega, fun f hf => by have := (h.2 f hf).1; omega⟩
    obtain ⟨f, th, cl, h1, h2, h3⟩ := one_same (bd hb gb) (bd ho go) (bd ht gt) (dd hb) (dd ho) (dd ht) p (x := [120]) (y := [121]) (by simp) (by simp)
    rw [h1, Option.bind_some, of14 b (by have := hb.1; omega), Option.bind_some, of14 o (by have := ho.1; omega), Option.bind_some, of14 t (by have := ht.1; omega), Option.bind_some, h2, Option.bind_some]
    rw [if_pos rfl, if_pos rfl]
    simp [toF, ok_some]
  · intro K hK
    have no : Ok (K true) _ := hK true fun h => by cases h
    rw [ok_if]
    refine ⟨fun _ => no, fun _ => ?_⟩
    refine ok_bd.2 ((few16 b).mono fun b1 h1 => ?_)
    rw [ok_if]
    refine ⟨fun _ => no, fun q1 => ok_bd.2 ((few16 o).mono fun b2 h2 => ?_)⟩
    rw [ok_if]
    refine ⟨fun _ => no, fun q2 => ok_bd.2 ((few16 t).mono fun b3 h3 => ?_)⟩
    rw [ok_if]
    have hb := h1 (by simpa using q1)
    have ho := h2 (by simpa using q2)
    refine ⟨fun _ => no, fun q3 => ok_bd.2 ((short16 b hb).mono fun s1 _ => ?_)⟩
    have ht := h3 (by simpa using q3)
    rw [ok_if]
    refine ⟨fun _ => no, fun _ => ok_bd.2 ((short16 o ho).mono fun s2 _ => ?_)⟩
    rw [ok_if]
    refine ⟨fun _ => no, fun _ => ok_bd.2 ((short16 t ht).mono fun s3 _ => ?_)⟩
    rw [ok_if]
    refine ⟨fun _ => no, fun _ => ?_⟩
    have ck : ∀ {l : List FilesFile}, F16 l → Ok (Sh.files_Row_Check l) fun e => e.isNil = true ↔ l.length ≤ 64 ∧ GoodF l := fun {l} h => check14 (by have := h.1; omega) fun z hz => by have := (h.2 z hz).1; omega
    refine ok_bd.2 ((ck hb).mono fun e1 c1 => ?_)
    rw [ok_if]
    refine ⟨fun n1 => ok_bd.2 ((ck ho).mono fun e2 c2 => ?_), fun _ => no⟩
    rw [ok_if]
    refine ⟨fun n2 => ok_bd.2 ((ck ht).mono fun e3 c3 => hK _ fun n3 => ?_), fun _ => no⟩
    exact ⟨⟨hb, (c1.1 n1).2⟩, ⟨ho, (c2.1 n2).2⟩, ht, (c3.1 (by simpa using n3)).2⟩
end Go.S
end
