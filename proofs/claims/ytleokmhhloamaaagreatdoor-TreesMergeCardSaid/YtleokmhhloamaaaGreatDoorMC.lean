/- Part of the proofs of: Any three trees merged: each path, what clashes, with its stages; or why not, as the document says. -/
import Derived.Laws.Small
import Derived.Lib.AppendStr
import Derived.Lib.UnsafeStr
import Derived.Lib.Builder
import Derived.Laws.Externs
import Derived.Laws.BytesString
import Derived.Laws.IdiomStrings
import Derived.Laws.StructEq
import Derived.Laws.Tables
import Derived.Laws.Cover2
import Derived.Lib.ConvBytes
import Derived.Lib.Bytealg
import Derived.Lib.AppendZeros
import Derived.Lib.ItoaNum
import Derived.Lib.LaidTab
import Derived.LaidSub
import Derived.Sort.Grow
import Derived.Deep.Draws
import Derived.Stop.Asserts
import Derived.LaidEql
import Derived.OneCell
import Derived.Below
import Derived.ProofKit
import Derived.OpenShut
import Derived.LaidMore
import Derived.Lay
import Derived.SevenTiedAt
import Derived.Stop.Joined
import Derived.LaidHandle
import Derived.Lib.Join
import Derived.Lib.Overlaps
import Derived.Lib.AppendZerosOnto
import Derived.Sort.Walk0
import Derived.Lib.SlicesCompact
import Derived.Sort.Row
import Derived.Sort.EncStr
import Derived.Maps.Own
import Derived.Maps.Views
import Derived.Sort.KeysCollected
import Derived.StringKeys
import Derived.Shelf.Strings.OnBuilder
import Derived.Shelf.LaysM
import Derived.Shelf.Strconv.Itoa3
import Derived.Shelf.Sort.Plain
import Derived.Shelf.Slices.CompactS
import Derived.Shelf.Slices.In.SortNone
import Derived.Test.YtleokmhhloamaaaGreatDoorProg
import Derived.Shelf.SlIter.Nil
import Derived.Shelf.SortM.Plain
import Derived.Shelf.SortM.SortNone
import Derived.Test.YtleokmhhloamaaaGreatDoorMB
set_option linter.unusedVariables false
set_option linter.unusedSimpArgs false
set_option linter.unusedSectionVars false
section
namespace Go.Proofs.YtleokmhhloamaaaGreatDoor
open Go.RowKit Go.V
open Go.P hiding Str
theorem mk26 : ((Tryz.prog.info? 26).map fun i => (i.size, i.bytes, i.zero.map fun z => z.cells.toList)) = some (1, 24, some [.slice none 0 0]) := by kernel_rfl
theorem sz26 : (Tryz.prog.info? 26).map (·.size) = some 1 := by kernel_rfl
set_option maxHeartbeats 8000000 in
 set_option maxRecDepth 100000 in
 theorem common_ct (a b : Sv Str) (ha : a.l.length ≤ 256) (hb : b.l.length ≤ 256) :
 Ct Tryz.prog 269 [a.val, b.val] (a.ok.and b.ok) Ow.emp (X := Sv (Sv Int)) (fun q => q.val) (fun q => q.l.map (·.l) = (List.range (a.l.length + 1)).map (crow a.l b.l)) (fun q => q.ok) (fun _ => Ow.emp) := by
 refine Zo Tryz.func269 Tryz.ntmps269 fun c => ?_
 refine Zq (Zr ?_)
 refine Zy ?_
 refine Zq (Zr ?_)
 refine Zm ?_
 refine Zu (q_ln (s := a) Tryz.underlying82 rfl) ?_
 refine Zu (q_add rfl rfl ⟨by omega, by omega⟩) ?_
 refine VL.make (α := Hd) (z := ⟨⟨none, 0, []⟩⟩) Tryz.underlying347 mk26 (by decide) rfl rfl (by omega) (by omega) (by omega) (by omega) (by decide) (fun s11 hs11 => ?_)
 refine Zy ?_
 refine Zq (Zq (Zr ?_))
 refine Zm ?_
 refine Zu (q_ln (s := a) Tryz.underlying82 rfl) ?_
 refine Zy ?_
 refine Zb ?_
 refine VC.loopM (S := Int × Sv Hd) (fun sg => -1 ≤ sg.1 ∧ sg.1 ≤ a.l.length ∧ sg.2.l.length = a.l.length + 1 ∧ ∀ k : Nat, sg.1 < k → k ≤ a.l.length → ∃ r : Hd, sg.2.l[k]? = some r ∧ r.s.l = crow a.l b.l k) (fun sg => [(0, a.val), (1, b.val), (4, .slice none 0 0), (5, sg.2.val), (5, sg.2.val), (6, i64 sg.1)]) (fun sg => (MR sg.2.l sg.1).and (a.ok.and b.ok)) (fun sg => Ow.star (Sv.own sg.2 26) (Ow.emp)) (fun sg => (sg.1 + 1).toNat) ((a.l.length : Int), s11) [0, 1, 4, 5, 5, 6] (by (try dsimp only); exact ⟨by omega, by omega, by rw [hs11]; simp <;> omega, fun k h1 h2 => absurd h1 (by omega)⟩) rfl (fun _ q => ⟨fun k z hk hz => absurd (List.getElem?_eq_some_iff.1 hz).1 (by rw [hs11]; simp; omega), q⟩) (by (try dsimp only); exact EntO.out) ?_
 rintro ⟨i, o⟩ hI
 show VC _ _ _ _ _ [(0, a.val), (1, b.val), (4, .slice none 0 0), (5, o.val), (5, o.val), (6, i64 i)] ((MR o.l i).and (a.ok.and b.ok)) (Ow.star (Sv.own o 26) (Ow.emp))
 try dsimp only at hI
 obtain ⟨i0, i1, hol, hrows⟩ := hI
 refine Zq (Zq (Zr ?_))
 refine Zm ?_
 refine Zu (q_geq rfl rfl) ?_
 refine Zl ?_
 refine VC.cond_dec rfl (fun h15 => ?_) (fun h15 => ?_)
 ·
  refine Zk ?_
  refine Zq (Zb (Zq (Zr ?_)))
  refine Zy ?_
  refine Zu (q_ln (s := b) Tryz.underlying82 rfl) ?_
  refine Zu (q_add rfl rfl ⟨by omega, by omega⟩) ?_
  refine VL.make (α := Int) (z := 0) Tryz.underlying26 mk3 (by decide) rfl rfl (by omega) (by omega) (by omega) (by omega) (by decide) (fun s23 hs23 => ?_)
  obtain ⟨z24, hz24⟩ : ∃ z, o.l[(i).toNat]? = some z := ⟨_, List.getElem?_eq_getElem (by omega)⟩
  refine Zu (q_ixo (s := o) Tryz.underlying347 sz26 rfl rfl (by omega) (by omega)) ?_
  refine VL.storeE (s := o) (T := 26) (j := 0) (vc := [s23.val]) (⟨s23⟩ : Hd) (by decide) rfl rfl hz24 rfl sz26 rfl rfl (Nat.le_of_ble_eq_true rfl) rfl (fun w0 hw0 haw0 hcw0 hvw0 hbw0 how0 => ?_)
  rw [← hvw0]
  refine Zl ?_
  refine Zq ?_
  have hw0l : w0.l.length = a.l.length + 1 := by rw [hw0, List.length_set]; exact hol
  obtain ⟨cur, hcur, hcs⟩ : ∃ z : Hd, w0.l[i.toNat]? = some z ∧ z.s = s23 := ⟨⟨s23⟩, by rw [hw0]; exact List.getElem?_set_self (by omega), rfl⟩
  refine Zr ?_
  refine Zm ?_
  refine Zu (q_ln (s := b) Tryz.underlying82 rfl) ?_
  refine Zu (q_sub rfl rfl ⟨by omega, by omega⟩) ?_
  refine Zy ?_
  refine Zb ?_
  refine VC.loopK (S := Int × Sv Int) (fun sg => -1 ≤ sg.1 ∧ sg.1 < b.l.length ∧ sg.2.l.length = b.l.length + 1 ∧ sg.2.val = s23.val ∧ ∀ k : Nat, (sg.1 < k ∨ i = a.l.length) → k ≤ b.l.length → sg.2.l[k]? = some (lcs (a.l.drop i.toNat) (b.l.drop k) : Int)) (fun sg => [(0, a.val), (1, b.val), (4, .slice none 0 0), (5, w0.val), (6, i64 i), (7, i64 sg.1)]) (fun sg => Ow.star (Sv.own w0 26) (Ow.star (Sv.own sg.2 3) (Ow.emp))) (fun sg => (sg.1 + 1).toNat) (((b.l.length : Int) - 1), s23) [0, 1, 4, 5, 6, 7] (by (try dsimp only); exact ⟨by omega, by omega, by rw [hs23]; simp <;> omega, rfl, fun k h1 h2 => by rw [crow_zero h2 h1, hs23, List.getElem?_replicate, if_pos (by omega)]⟩) rfl (by (try dsimp only); exact EntO.out) ?_
  rintro ⟨j, s⟩ hI
  show VC _ _ _ _ _ [(0, a.val), (1, b.val), (4, .slice none 0 0), (5, w0.val), (6, i64 i), (7, i64 j)] _ (Ow.star (Sv.own w0 26) (Ow.star (Sv.own s 3) (Ow.emp)))
  try dsimp only at hI
  obtain ⟨j0, j1, hsl, hv_s, hrow⟩ := hI
  refine Zq (Zq (Zr ?_))
  refine Zm ?_
  refine Zu (q_geq rfl rfl) ?_
  refine Zm ?_
  refine VL.split_dec 30 rfl (fun h30 => ?_) (fun h30 => ?_)
  ·
   refine Zy ?_
   refine Zh (q_ln (s := a) Tryz.underlying82 rfl) ?_
   refine Zh (q_lss rfl rfl) ?_
   refine Zy ?_
   refine VC.cond_dec rfl (fun h35 => ?_) (fun h35 => ?_)
   ·
    obtain ⟨nxt, hnx0, hnl⟩ := hrows (i + 1).toNat (by omega) (by omega)
    have hnxt : w0.l[(i + 1).toNat]? = some nxt := by rw [hw0, List.getElem?_set_ne (by omega)]; exact hnx0
    refine VC.addM nxt.s.ok (fun h q => q.1 (i + 1).toNat nxt (by omega) hnx0) ?_
    have hnlen : nxt.s.l.length = b.l.length + 1 := by rw [hnl, crow_len]
    have hL : ∀ {k : Int} {z : Int}, 0 ≤ k → k ≤ b.l.length → nxt.s.l[k.toNat]? = some z → z = lcs (a.l.drop (i + 1).toNat) (b.l.drop k.toNat) := fun hk0 hk1 hz => by rw [hnl, crow_at _ _ _ (by omega)] at hz; exact (Option.some.inj hz).symm
    refine Zk ?_
    refine Zq (Zb (Zq ?_))
    refine VC.draw [(0, true), (1, true), (2, true), (3, true), (4, true), (5, true), (6, true), (7, true), (8, true), (9, true), (10, true), (11, true), (12, true), (13, true), (14, false)] mixed (by kernel_rfl) (by kernel_rfl) (by kernel_rfl) ?_
    refine Zw rfl (q_move rfl) ?_
    refine Zw rfl (q_move rfl) ?_
    refine Zw rfl (q_ixo (s := w0) Tryz.underlying347 sz26 rfl rfl (by omega) (by omega)) ?_
    refine Zw rfl (q_elo (s := w0) 26 one26 rfl hcur rfl) ?_
    refine VD.setv 41 rfl (show cur.s.val = s.val by rw [hcs]; exact hv_s.symm) ?_
    refine Zw rfl (q_move rfl) ?_
    refine Zw rfl (q_move rfl) ?_
    refine Zw rfl (q_move rfl) ?_
    refine Zw rfl (q_add rfl rfl ⟨by omega, by omega⟩) ?_
    refine Zw rfl (q_ixo (s := w0) Tryz.underlying347 sz26 rfl rfl (by omega) (by omega)) ?_
    refine Zw rfl (q_elo (s := w0) 26 one26 rfl hnxt rfl) ?_
    refine Zw rfl (q_move rfl) ?_
    obtain ⟨z49, hz49⟩ : ∃ z, nxt.s.l[(j).toNat]? = some z := ⟨_, List.getElem?_eq_getElem (by omega)⟩
    refine Zw rfl (q_ixm (s := nxt.s) Tryz.underlying26 sz3 rfl rfl (by omega) (by omega)) ?_
    refine Zw rfl (q_el (s := nxt.s) one3 rfl hz49 rfl) ?_
    obtain ⟨z51, hz51⟩ : ∃ z, s.l[(j).toNat]? = some z := ⟨_, List.getElem?_eq_getElem (by omega)⟩
    refine Zw rfl (q_ixo (s := s) Tryz.underlying26 sz3 rfl rfl (by omega) (by omega)) ?_
    refine VD.one rfl ?_
    refine VL.storeE (s := s) (T := 3) (j := 0) (vc := [i64 z49]) (z49 : Int) (by decide) rfl rfl hz51 rfl sz3 rfl rfl (Nat.le_of_ble_eq_true rfl) rfl (fun w1 hw1 haw1 hcw1 hvw1 hbw1 how1 => ?_)
    rw [← hvw1]
    refine VL.back (D' := []) (by kernel_rfl) (Pend.nil) ?_
    refine VD.to (fun _ _ h => h) ?_
    refine Zq (Zq ?_)
    have hv_w1 : w1.val = s23.val := hvw1.trans hv_s
    have hl_w1 : w1.l.length = b.l.length + 1 := by rw [hw1, List.length_set]; exact hsl
    refine VC.draw ((List.range 16).map fun k => (k, true)) mixed (by kernel_rfl) (by kernel_rfl) (by kernel_rfl) ?_
    refine Zw rfl (q_move rfl) ?_
    refine Zw rfl (q_move rfl) ?_
    refine Zw rfl (q_ixo (s := w0) Tryz.underlying347 sz26 rfl rfl (by omega) (by omega)) ?_
    refine Zw rfl (q_elo (s := w0) 26 one26 rfl hcur rfl) ?_
    refine VD.setv 55 rfl (show cur.s.val = w1.val by rw [hcs]; exact hv_w1.symm) ?_
    refine Zw rfl (q_move rfl) ?_
    refine Zw rfl (q_add rfl rfl ⟨by omega, by omega⟩) ?_
    obtain ⟨z58, hz58⟩ : ∃ z, w1.l[((j + 1)).toNat]? = some z := ⟨_, List.getElem?_eq_getElem (by omega)⟩
    refine Zw rfl (q_ixo (s := w1) Tryz.underlying26 sz3 rfl rfl (by omega) (by omega)) ?_
    refine Zw rfl (q_elo (s := w1) 3 one3 rfl hz58 rfl) ?_
    refine Zw rfl (q_move rfl) ?_
    refine Zw rfl (q_move rfl) ?_
    refine Zw rfl (q_ixo (s := w0) Tryz.underlying347 sz26 rfl rfl (by omega) (by omega)) ?_
    refine Zw rfl (q_elo (s := w0) 26 one26 rfl hcur rfl) ?_
    refine VD.setv 63 rfl (show cur.s.val = w1.val by rw [hcs]; exact hv_w1.symm) ?_
    refine Zw rfl (q_move rfl) ?_
    obtain ⟨z65, hz65⟩ : ∃ z, w1.l[(j).toNat]? = some z := ⟨_, List.getElem?_eq_getElem (by omega)⟩
    refine Zw rfl (q_ixo (s := w1) Tryz.underlying26 sz3 rfl rfl (by omega) (by omega)) ?_
    refine Zw rfl (q_elo (s := w1) 3 one3 rfl hz65 rfl) ?_
    refine Zw rfl (q_gtr rfl rfl) ?_
    refine VD.to (fun _ _ h => h) ?_
    refine VC.cond_dec rfl (fun h67 => ?_) (fun h67 => ?_)
    ·
     refine VC.draw [(0, true), (1, true), (2, true), (3, true), (4, true), (5, true), (6, true), (7, true), (8, true), (9, true), (10, true), (11, true), (12, true), (13, true), (14, false)] mixed (by kernel_rfl) (by kernel_rfl) (by kernel_rfl) ?_
     refine Zw rfl (q_move rfl) ?_
     refine Zw rfl (q_move rfl) ?_
     refine Zw rfl (q_ixo (s := w0) Tryz.underlying347 sz26 rfl rfl (by omega) (by omega)) ?_
     refine Zw rfl (q_elo (s := w0) 26 one26 rfl hcur rfl) ?_
     refine VD.setv 71 rfl (show cur.s.val = w1.val by rw [hcs]; exact hv_w1.symm) ?_
     refine Zw rfl (q_move rfl) ?_
     refine Zw rfl (q_move rfl) ?_
     refine Zw rfl (q_move rfl) ?_
     refine Zw rfl (q_ixo (s := w0) Tryz.underlying347 sz26 rfl rfl (by omega) (by omega)) ?_
     refine Zw rfl (q_elo (s := w0) 26 one26 rfl hcur rfl) ?_
     refine VD.setv 76 rfl (show cur.s.val = w1.val by rw [hcs]; exact hv_w1.symm) ?_
     refine Zw rfl (q_move rfl) ?_
     refine Zw rfl (q_add rfl rfl ⟨by omega, by omega⟩) ?_
     obtain ⟨z79, hz79⟩ : ∃ z, w1.l[((j + 1)).toNat]? = some z := ⟨_, List.getElem?_eq_getElem (by omega)⟩
     refine Zw rfl (q_ixo (s := w1) Tryz.underlying26 sz3 rfl rfl (by omega) (by omega)) ?_
     refine Zw rfl (q_elo (s := w1) 3 one3 rfl hz79 rfl) ?_
     obtain ⟨z81, hz81⟩ : ∃ z, w1.l[(j).toNat]? = some z := ⟨_, List.getElem?_eq_getElem (by omega)⟩
     refine Zw rfl (q_ixo (s := w1) Tryz.underlying26 sz3 rfl rfl (by omega) (by omega)) ?_
     refine VD.one rfl ?_
     refine VL.storeE (s := w1) (T := 3) (j := 0) (vc := [i64 z79]) (z79 : Int) (by decide) rfl rfl hz81 rfl sz3 rfl rfl (Nat.le_of_ble_eq_true rfl) rfl (fun w2 hw2 haw2 hcw2 hvw2 hbw2 how2 => ?_)
     rw [← hvw2]
     refine VL.back (D' := []) (by kernel_rfl) (Pend.nil) ?_
     refine VD.to (fun _ _ h => h) ?_
     refine Zq ?_
     have hv_w2 : w2.val = s23.val := hvw2.trans hv_w1
     have hl_w2 : w2.l.length = b.l.length + 1 := by rw [hw2, List.length_set]; exact hl_w1
     refine VC.draw ((List.range 29).map fun k => (k, true)) mixed (by kernel_rfl) (by kernel_rfl) (by kernel_rfl) ?_
     refine Zw rfl (q_move rfl) ?_
     refine Zw rfl (q_move rfl) ?_
     obtain ⟨z84, hz84⟩ : ∃ z, a.l[(i).toNat]? = some z := ⟨_, List.getElem?_eq_getElem (by omega)⟩
     refine Zw rfl (q_ixm (s := a) Tryz.underlying82 sz9 rfl rfl (by omega) (by omega)) ?_
     refine Zw rfl (q_el (s := a) one9 rfl hz84 rfl) ?_
     refine Zw rfl (q_move rfl) ?_
     refine Zw rfl (q_move rfl) ?_
     obtain ⟨z88, hz88⟩ : ∃ z, b.l[(j).toNat]? = some z := ⟨_, List.getElem?_eq_getElem (by omega)⟩
     refine Zw rfl (q_ixm (s := b) Tryz.underlying82 sz9 rfl rfl (by omega) (by omega)) ?_
     refine Zw rfl (q_el (s := b) one9 rfl hz88 rfl) ?_
     refine Zw rfl (q_seq rfl rfl) ?_
     refine Zw rfl (q_move rfl) ?_
     refine VD.split_dec 91 rfl (fun h91 => ?_) (fun h91 => ?_)
     ·
      refine Zi rfl (q_move rfl) ?_
      refine Zi rfl (q_move rfl) ?_
      refine Zi rfl (q_add rfl rfl ⟨by omega, by omega⟩) ?_
      refine Zi rfl (q_ixo (s := w0) Tryz.underlying347 sz26 rfl rfl (by omega) (by omega)) ?_
      refine Zi rfl (q_elo (s := w0) 26 one26 rfl hnxt rfl) ?_
      refine Zi rfl (q_move rfl) ?_
      refine Zi rfl (q_add rfl rfl ⟨by omega, by omega⟩) ?_
      obtain ⟨z99, hz99⟩ : ∃ z, nxt.s.l[((j + 1)).toNat]? = some z := ⟨_, List.getElem?_eq_getElem (by omega)⟩
      refine Zi rfl (q_ixm (s := nxt.s) Tryz.underlying26 sz3 rfl rfl (by omega) (by omega)) ?_
      refine Zi rfl (q_el (s := nxt.s) one3 rfl hz99 rfl) ?_
      have hbz := hL (by omega) (by omega) hz99
      have hle := lcs_le (a.l.drop (i + 1).toNat) (b.l.drop (j + 1).toNat)
      have hdl : (a.l.drop (i + 1).toNat).length ≤ 256 := by rw [List.length_drop]; omega
      refine Zi rfl (q_add rfl rfl ⟨by omega, by omega⟩) ?_
      refine Zi rfl (q_move rfl) ?_
      refine Zi rfl (q_move rfl) ?_
      refine Zi rfl (q_ixo (s := w0) Tryz.underlying347 sz26 rfl rfl (by omega) (by omega)) ?_
      refine Zi rfl (q_elo (s := w0) 26 one26 rfl hcur rfl) ?_
      refine VD.setv 105 rfl (show cur.s.val = w2.val by rw [hcs]; exact hv_w2.symm) ?_
      refine Zi rfl (q_move rfl) ?_
      obtain ⟨z107, hz107⟩ : ∃ z, w2.l[(j).toNat]? = some z := ⟨_, List.getElem?_eq_getElem (by omega)⟩
      refine Zi rfl (q_ixo (s := w2) Tryz.underlying26 sz3 rfl rfl (by omega) (by omega)) ?_
      refine Zi rfl (q_elo (s := w2) 3 one3 rfl hz107 rfl) ?_
      refine Zi rfl (q_gtr rfl rfl) ?_
      refine Zw rfl (q_pick_t rfl rfl) ?_
      refine VD.to (fun _ _ h => h) ?_
      refine VC.cond_dec rfl (fun h110 => ?_) (fun h110 => ?_)
      ·
       refine VC.draw [(0, true), (1, true), (2, true), (3, true), (4, true), (5, true), (6, true), (7, true), (8, true), (9, true), (10, true), (11, true), (12, true), (13, true), (14, true), (15, true), (16, false)] mixed (by kernel_rfl) (by kernel_rfl) (by kernel_rfl) ?_
       refine Zw rfl (q_move rfl) ?_
       refine Zw rfl (q_move rfl) ?_
       refine Zw rfl (q_ixo (s := w0) Tryz.underlying347 sz26 rfl rfl (by omega) (by omega)) ?_
       refine Zw rfl (q_elo (s := w0) 26 one26 rfl hcur rfl) ?_
       refine VD.setv 114 rfl (show cur.s.val = w2.val by rw [hcs]; exact hv_w2.symm) ?_
       refine Zw rfl (q_move rfl) ?_
       refine Zw rfl (q_move rfl) ?_
       refine Zw rfl (q_move rfl) ?_
       refine Zw rfl (q_add rfl rfl ⟨by omega, by omega⟩) ?_
       refine Zw rfl (q_ixo (s := w0) Tryz.underlying347 sz26 rfl rfl (by omega) (by omega)) ?_
       refine Zw rfl (q_elo (s := w0) 26 one26 rfl hnxt rfl) ?_
       refine Zw rfl (q_move rfl) ?_
       refine Zw rfl (q_add rfl rfl ⟨by omega, by omega⟩) ?_
       obtain ⟨z123, hz123⟩ : ∃ z, nxt.s.l[((j + 1)).toNat]? = some z := ⟨_, List.getElem?_eq_getElem (by omega)⟩
       refine Zw rfl (q_ixm (s := nxt.s) Tryz.underlying26 sz3 rfl rfl (by omega) (by omega)) ?_
       refine Zw rfl (q_el (s := nxt.s) one3 rfl hz123 rfl) ?_
       have hbz := hL (by omega) (by omega) hz123
       have hle := lcs_le (a.l.drop (i + 1).toNat) (b.l.drop (j + 1).toNat)
       have hdl : (a.l.drop (i + 1).toNat).length ≤ 256 := by rw [List.length_drop]; omega
       refine Zw rfl (q_add rfl rfl ⟨by omega, by omega⟩) ?_
       obtain ⟨z126, hz126⟩ : ∃ z, w2.l[(j).toNat]? = some z := ⟨_, List.getElem?_eq_getElem (by omega)⟩
       refine Zw rfl (q_ixo (s := w2) Tryz.underlying26 sz3 rfl rfl (by omega) (by omega)) ?_
       refine VD.one rfl ?_
       refine VL.storeE (s := w2) (T := 3) (j := 0) (vc := [i64 (z123 + 1)]) ((z123 + 1) : Int) (by decide) rfl rfl hz126 rfl sz3 rfl rfl (Nat.le_of_ble_eq_true rfl) rfl (fun w3 hw3 haw3 hcw3 hvw3 hbw3 how3 => ?_)
       rw [← hvw3]
       refine VL.back (D' := []) (by kernel_rfl) (Pend.nil) ?_
       refine VD.to (fun _ _ h => h) ?_
       refine Zr ?_
       refine Zm ?_
       refine Zu (q_sub rfl rfl ⟨by omega, by omega⟩) ?_
       refine Za ?_
       refine VL.anyI ((j - 1), w3) [0, 1, 4, 5, 6, 7] (fun _ _ h => h) ?_ rfl (by (try dsimp only); exact EntO.out)
       try dsimp only
       have e49 := hL (by omega) (by omega) hz49
       have e65 : z65 = z49 := by
         rw [hw1, List.getElem?_set_self (by omega)] at hz65; exact (Option.some.inj hz65).symm
       have e58 : z58 = lcs (a.l.drop i.toNat) (b.l.drop (j + 1).toNat) := by
         rw [hw1, List.getElem?_set_ne (by omega), hrow (j + 1).toNat (.inl (by omega)) (by omega)] at hz58; exact (Option.some.inj hz58).symm
       first
         | (have e79 : z79 = z58 := Option.some.inj (hz79.symm.trans hz58)
            have e99 := hL (by omega) (by omega) hz99
            have e123 := hL (by omega) (by omega) hz123
            have e107 : z107 = z79 := by
              rw [hw2, List.getElem?_set_self (by omega)] at hz107; exact (Option.some.inj hz107).symm
            have key := crow_step hz84 hz88 (by omega) (by omega) e49 e58 e123 (m := z79) (n := z123 + 1) (by rw [if_pos (by omega)]; exact e79) (by rw [if_pos ⟨h91, by omega⟩])
            have fin := inner_fin (l' := w3.l) hsl (by omega) j1 (by omega) hrow (by rw [hw3, hw2, hw1, List.set_set, List.set_set]) key
            exact ⟨⟨by omega, by omega, fin.1, hvw3.trans hv_w2, fin.2⟩, by omega⟩)
         | (have e79 : z79 = z58 := Option.some.inj (hz79.symm.trans hz58)
            have e99 := hL (by omega) (by omega) hz99
            have e107 : z107 = z79 := by
              rw [hw2, List.getElem?_set_self (by omega)] at hz107; exact (Option.some.inj hz107).symm
            have key := crow_step hz84 hz88 (by omega) (by omega) e49 e58 e99 (m := z79) (n := z79) (by rw [if_pos (by omega)]; exact e79) (by rw [if_neg (fun q => by have := q.2; omega)])
            have fin := inner_fin (l' := w2.l) hsl (by omega) j1 (by omega) hrow (by rw [hw2, hw1, List.set_set]) key
            exact ⟨⟨by omega, by omega, fin.1, hv_w2, fin.2⟩, by omega⟩)
         | (have e79 : z79 = z58 := Option.some.inj (hz79.symm.trans hz58)
            have key := crow_step hz84 hz88 (by omega) (by omega) e49 e58 rfl (m := z79) (n := z79) (by rw [if_pos (by omega)]; exact e79) (by rw [if_neg (fun q => h91 q.1)])
            have fin := inner_fin (l' := w2.l) hsl (by omega) j1 (by omega) hrow (by rw [hw2, hw1, List.set_set]) key
            exact ⟨⟨by omega, by omega, fin.1, hv_w2, fin.2⟩, by omega⟩)
         | (have e99 := hL (by omega) (by omega) hz99
            have e123 := hL (by omega) (by omega) hz123
            have e107 : z107 = z49 := by
              rw [hw1, List.getElem?_set_self (by omega)] at hz107; exact (Option.some.inj hz107).symm
            have key := crow_step hz84 hz88 (by omega) (by omega) e49 e58 e123 (m := z49) (n := z123 + 1) (by rw [if_neg (by omega)]) (by rw [if_pos ⟨h91, by omega⟩])
            have fin := inner_fin (l' := w4.l) hsl (by omega) j1 (by omega) hrow (by rw [hw4, hw1, List.set_set]) key
            exact ⟨⟨by omega, by omega, fin.1, hvw4.trans hv_w1, fin.2⟩, by omega⟩)
         | (have e99 := hL (by omega) (by omega) hz99
            have e107 : z107 = z49 := by
              rw [hw1, List.getElem?_set_self (by omega)] at hz107; exact (Option.some.inj hz107).symm
            have key := crow_step hz84 hz88 (by omega) (by omega) e49 e58 e99 (m := z49) (n := z49) (by rw [if_neg (by omega)]) (by rw [if_neg (fun q => by have := q.2; omega)])
            have fin := inner_fin (l' := w1.l) hsl (by omega) j1 (by omega) hrow hw1 key
            exact ⟨⟨by omega, by omega, fin.1, hv_w1, fin.2⟩, by omega⟩)
         | (have key := crow_step hz84 hz88 (by omega) (by omega) e49 e58 rfl (m := z49) (n := z49) (by rw [if_neg (by omega)]) (by rw [if_neg (fun q => h91 q.1)])
            have fin := inner_fin (l' := w1.l) hsl (by omega) j1 (by omega) hrow hw1 key
            exact ⟨⟨by omega, by omega, fin.1, hv_w1, fin.2⟩, by omega⟩)
      refine Zk ?_
      refine Zr ?_
      refine Zm ?_
      refine Zu (q_sub rfl rfl ⟨by omega, by omega⟩) ?_
      refine Za ?_
      refine VL.anyI ((j - 1), w2) [0, 1, 4, 5, 6, 7] (fun _ _ h => h) ?_ rfl (by (try dsimp only); exact EntO.out)
      try dsimp only
      have e49 := hL (by omega) (by omega) hz49
      have e65 : z65 = z49 := by
        rw [hw1, List.getElem?_set_self (by omega)] at hz65; exact (Option.some.inj hz65).symm
      have e58 : z58 = lcs (a.l.drop i.toNat) (b.l.drop (j + 1).toNat) := by
        rw [hw1, List.getElem?_set_ne (by omega), hrow (j + 1).toNat (.inl (by omega)) (by omega)] at hz58; exact (Option.some.inj hz58).symm
      first
        | (have e79 : z79 = z58 := Option.some.inj (hz79.symm.trans hz58)
           have e99 := hL (by omega) (by omega) hz99
           have e123 := hL (by omega) (by omega) hz123
           have e107 : z107 = z79 := by
             rw [hw2, List.getElem?_set_self (by omega)] at hz107; exact (Option.some.inj hz107).symm
           have key := crow_step hz84 hz88 (by omega) (by omega) e49 e58 e123 (m := z79) (n := z123 + 1) (by rw [if_pos (by omega)]; exact e79) (by rw [if_pos ⟨h91, by omega⟩])
           have fin := inner_fin (l' := w3.l) hsl (by omega) j1 (by omega) hrow (by rw [hw3, hw2, hw1, List.set_set, List.set_set]) key
           exact ⟨⟨by omega, by omega, fin.1, hvw3.trans hv_w2, fin.2⟩, by omega⟩)
        | (have e79 : z79 = z58 := Option.some.inj (hz79.symm.trans hz58)
           have e99 := hL (by omega) (by omega) hz99
           have e107 : z107 = z79 := by
             rw [hw2, List.getElem?_set_self (by omega)] at hz107; exact (Option.some.inj hz107).symm
           have key := crow_step hz84 hz88 (by omega) (by omega) e49 e58 e99 (m := z79) (n := z79) (by rw [if_pos (by omega)]; exact e79) (by rw [if_neg (fun q => by have := q.2; omega)])
           have fin := inner_fin (l' := w2.l) hsl (by omega) j1 (by omega) hrow (by rw [hw2, hw1, List.set_set]) key
           exact ⟨⟨by omega, by omega, fin.1, hv_w2, fin.2⟩, by omega⟩)
        | (have e79 : z79 = z58 := Option.some.inj (hz79.symm.trans hz58)
           have key := crow_step hz84 hz88 (by omega) (by omega) e49 e58 rfl (m := z79) (n := z79) (by rw [if_pos (by omega)]; exact e79) (by rw [if_neg (fun q => h91 q.1)])
           have fin := inner_fin (l' := w2.l) hsl (by omega) j1 (by omega) hrow (by rw [hw2, hw1, List.set_set]) key
           exact ⟨⟨by omega, by omega, fin.1, hv_w2, fin.2⟩, by omega⟩)
        | (have e99 := hL (by omega) (by omega) hz99
           have e123 := hL (by omega) (by omega) hz123
           have e107 : z107 = z49 := by
             rw [hw1, List.getElem?_set_self (by omega)] at hz107; exact (Option.some.inj hz107).symm
           have key := crow_step hz84 hz88 (by omega) (by omega) e49 e58 e123 (m := z49) (n := z123 + 1) (by rw [if_neg (by omega)]) (by rw [if_pos ⟨h91, by omega⟩])
           have fin := inner_fin (l' := w4.l) hsl (by omega) j1 (by omega) hrow (by rw [hw4, hw1, List.set_set]) key
           exact ⟨⟨by omega, by omega, fin.1, hvw4.trans hv_w1, fin.2⟩, by omega⟩)
        | (have e99 := hL (by omega) (by omega) hz99
           have e107 : z107 = z49 := by
             rw [hw1, List.getElem?_set_self (by omega)] at hz107; exact (Option.some.inj hz107).symm
           have key := crow_step hz84 hz88 (by omega) (by omega) e49 e58 e99 (m := z49) (n := z49) (by rw [if_neg (by omega)]) (by rw [if_neg (fun q => by have := q.2; omega)])
           have fin := inner_fin (l' := w1.l) hsl (by omega) j1 (by omega) hrow hw1 key
           exact ⟨⟨by omega, by omega, fin.1, hv_w1, fin.2⟩, by omega⟩)
        | (have key := crow_step hz84 hz88 (by omega) (by omega) e49 e58 rfl (m := z49) (n := z49) (by rw [if_neg (by omega)]) (by rw [if_neg (fun q => h91 q.1)])
           have fin := inner_fin (l' := w1.l) hsl (by omega) j1 (by omega) hrow hw1 key
           exact ⟨⟨by omega, by omega, fin.1, hv_w1, fin.2⟩, by omega⟩)
     refine Zd ?_
     refine Zd ?_
     refine Zd ?_
     refine Zd ?_
     refine Zd ?_
     refine Zd ?_
     refine Zd ?_
     refine Zd ?_
     refine Zd ?_
     refine Zd ?_
     refine Zd ?_
     refine Zd ?_
     refine Zd ?_
     refine Zd ?_
     refine Zd ?_
     refine Zd ?_
     refine Zd ?_
     refine Zd ?_
     refine Zw rfl (q_pick_f rfl rfl) ?_
     refine VD.to (fun _ _ h => h) ?_
     refine VC.cond_f rfl ?_
     refine Zk ?_
     refine Zr ?_
     refine Zm ?_
     refine Zu (q_sub rfl rfl ⟨by omega, by omega⟩) ?_
     refine Za ?_
     refine VL.anyI ((j - 1), w2) [0, 1, 4, 5, 6, 7] (fun _ _ h => h) ?_ rfl (by (try dsimp only); exact EntO.out)
     try dsimp only
     have e49 := hL (by omega) (by omega) hz49
     have e65 : z65 = z49 := by
       rw [hw1, List.getElem?_set_self (by omega)] at hz65; exact (Option.some.inj hz65).symm
     have e58 : z58 = lcs (a.l.drop i.toNat) (b.l.drop (j + 1).toNat) := by
       rw [hw1, List.getElem?_set_ne (by omega), hrow (j + 1).toNat (.inl (by omega)) (by omega)] at hz58; exact (Option.some.inj hz58).symm
     first
       | (have e79 : z79 = z58 := Option.some.inj (hz79.symm.trans hz58)
          have e99 := hL (by omega) (by omega) hz99
          have e123 := hL (by omega) (by omega) hz123
          have e107 : z107 = z79 := by
            rw [hw2, List.getElem?_set_self (by omega)] at hz107; exact (Option.some.inj hz107).symm
          have key := crow_step hz84 hz88 (by omega) (by omega) e49 e58 e123 (m := z79) (n := z123 + 1) (by rw [if_pos (by omega)]; exact e79) (by rw [if_pos ⟨h91, by omega⟩])
          have fin := inner_fin (l' := w3.l) hsl (by omega) j1 (by omega) hrow (by rw [hw3, hw2, hw1, List.set_set, List.set_set]) key
          exact ⟨⟨by omega, by omega, fin.1, hvw3.trans hv_w2, fin.2⟩, by omega⟩)
       | (have e79 : z79 = z58 := Option.some.inj (hz79.symm.trans hz58)
          have e99 := hL (by omega) (by omega) hz99
          have e107 : z107 = z79 := by
            rw [hw2, List.getElem?_set_self (by omega)] at hz107; exact (Option.some.inj hz107).symm
          have key := crow_step hz84 hz88 (by omega) (by omega) e49 e58 e99 (m := z79) (n := z79) (by rw [if_pos (by omega)]; exact e79) (by rw [if_neg (fun q => by have := q.2; omega)])
          have fin := inner_fin (l' := w2.l) hsl (by omega) j1 (by omega) hrow (by rw [hw2, hw1, List.set_set]) key
          exact ⟨⟨by omega, by omega, fin.1, hv_w2, fin.2⟩, by omega⟩)
       | (have e79 : z79 = z58 := Option.some.inj (hz79.symm.trans hz58)
          have key := crow_step hz84 hz88 (by omega) (by omega) e49 e58 rfl (m := z79) (n := z79) (by rw [if_pos (by omega)]; exact e79) (by rw [if_neg (fun q => h91 q.1)])
          have fin := inner_fin (l' := w2.l) hsl (by omega) j1 (by omega) hrow (by rw [hw2, hw1, List.set_set]) key
          exact ⟨⟨by omega, by omega, fin.1, hv_w2, fin.2⟩, by omega⟩)
       | (have e99 := hL (by omega) (by omega) hz99
          have e123 := hL (by omega) (by omega) hz123
          have e107 : z107 = z49 := by
            rw [hw1, List.getElem?_set_self (by omega)] at hz107; exact (Option.some.inj hz107).symm
          have key := crow_step hz84 hz88 (by omega) (by omega) e49 e58 e123 (m := z49) (n := z123 + 1) (by rw [if_neg (by omega)]) (by rw [if_pos ⟨h91, by omega⟩])
          have fin := inner_fin (l' := w4.l) hsl (by omega) j1 (by omega) hrow (by rw [hw4, hw1, List.set_set]) key
          exact ⟨⟨by omega, by omega, fin.1, hvw4.trans hv_w1, fin.2⟩, by omega⟩)
       | (have e99 := hL (by omega) (by omega) hz99
          have e107 : z107 = z49 := by
            rw [hw1, List.getElem?_set_self (by omega)] at hz107; exact (Option.some.inj hz107).symm
          have key := crow_step hz84 hz88 (by omega) (by omega) e49 e58 e99 (m := z49) (n := z49) (by rw [if_neg (by omega)]) (by rw [if_neg (fun q => by have := q.2; omega)])
          have fin := inner_fin (l' := w1.l) hsl (by omega) j1 (by omega) hrow hw1 key
          exact ⟨⟨by omega, by omega, fin.1, hv_w1, fin.2⟩, by omega⟩)
       | (have key := crow_step hz84 hz88 (by omega) (by omega) e49 e58 rfl (m := z49) (n := z49) (by rw [if_neg (by omega)]) (by rw [if_neg (fun q => h91 q.1)])
          have fin := inner_fin (l' := w1.l) hsl (by omega) j1 (by omega) hrow hw1 key
          exact ⟨⟨by omega, by omega, fin.1, hv_w1, fin.2⟩, by omega⟩)
    refine Zk ?_
    refine Zq ?_
    refine VC.draw ((List.range 29).map fun k => (k, true)) mixed (by kernel_rfl) (by kernel_rfl) (by kernel_rfl) ?_
    refine Zw rfl (q_move rfl) ?_
    refine Zw rfl (q_move rfl) ?_
    obtain ⟨z84, hz84⟩ : ∃ z, a.l[(i).toNat]? = some z := ⟨_, List.getElem?_eq_getElem (by omega)⟩
    refine Zw rfl (q_ixm (s := a) Tryz.underlying82 sz9 rfl rfl (by omega) (by omega)) ?_
    refine Zw rfl (q_el (s := a) one9 rfl hz84 rfl) ?_
    refine Zw rfl (q_move rfl) ?_
    refine Zw rfl (q_move rfl) ?_
    obtain ⟨z88, hz88⟩ : ∃ z, b.l[(j).toNat]? = some z := ⟨_, List.getElem?_eq_getElem (by omega)⟩
    refine Zw rfl (q_ixm (s := b) Tryz.underlying82 sz9 rfl rfl (by omega) (by omega)) ?_
    refine Zw rfl (q_el (s := b) one9 rfl hz88 rfl) ?_
    refine Zw rfl (q_seq rfl rfl) ?_
    refine Zw rfl (q_move rfl) ?_
    refine VD.split_dec 91 rfl (fun h91 => ?_) (fun h91 => ?_)
    ·
     refine Zi rfl (q_move rfl) ?_
     refine Zi rfl (q_move rfl) ?_
     refine Zi rfl (q_add rfl rfl ⟨by omega, by omega⟩) ?_
     refine Zi rfl (q_ixo (s := w0) Tryz.underlying347 sz26 rfl rfl (by omega) (by omega)) ?_
     refine Zi rfl (q_elo (s := w0) 26 one26 rfl hnxt rfl) ?_
     refine Zi rfl (q_move rfl) ?_
     refine Zi rfl (q_add rfl rfl ⟨by omega, by omega⟩) ?_
     obtain ⟨z99, hz99⟩ : ∃ z, nxt.s.l[((j + 1)).toNat]? = some z := ⟨_, List.getElem?_eq_getElem (by omega)⟩
     refine Zi rfl (q_ixm (s := nxt.s) Tryz.underlying26 sz3 rfl rfl (by omega) (by omega)) ?_
     refine Zi rfl (q_el (s := nxt.s) one3 rfl hz99 rfl) ?_
     have hbz := hL (by omega) (by omega) hz99
     have hle := lcs_le (a.l.drop (i + 1).toNat) (b.l.drop (j + 1).toNat)
     have hdl : (a.l.drop (i + 1).toNat).length ≤ 256 := by rw [List.length_drop]; omega
     refine Zi rfl (q_add rfl rfl ⟨by omega, by omega⟩) ?_
     refine Zi rfl (q_move rfl) ?_
     refine Zi rfl (q_move rfl) ?_
     refine Zi rfl (q_ixo (s := w0) Tryz.underlying347 sz26 rfl rfl (by omega) (by omega)) ?_
     refine Zi rfl (q_elo (s := w0) 26 one26 rfl hcur rfl) ?_
     refine VD.setv 105 rfl (show cur.s.val = w1.val by rw [hcs]; exact hv_w1.symm) ?_
     refine Zi rfl (q_move rfl) ?_
     obtain ⟨z107, hz107⟩ : ∃ z, w1.l[(j).toNat]? = some z := ⟨_, List.getElem?_eq_getElem (by omega)⟩
     refine Zi rfl (q_ixo (s := w1) Tryz.underlying26 sz3 rfl rfl (by omega) (by omega)) ?_
     refine Zi rfl (q_elo (s := w1) 3 one3 rfl hz107 rfl) ?_
     refine Zi rfl (q_gtr rfl rfl) ?_
     refine Zw rfl (q_pick_t rfl rfl) ?_
     refine VD.to (fun _ _ h => h) ?_
     refine VC.cond_dec rfl (fun h110 => ?_) (fun h110 => ?_)
     ·
      refine VC.draw [(0, true), (1, true), (2, true), (3, true), (4, true), (5, true), (6, true), (7, true), (8, true), (9, true), (10, true), (11, true), (12, true), (13, true), (14, true), (15, true), (16, false)] mixed (by kernel_rfl) (by kernel_rfl) (by kernel_rfl) ?_
      refine Zw rfl (q_move rfl) ?_
      refine Zw rfl (q_move rfl) ?_
      refine Zw rfl (q_ixo (s := w0) Tryz.underlying347 sz26 rfl rfl (by omega) (by omega)) ?_
      refine Zw rfl (q_elo (s := w0) 26 one26 rfl hcur rfl) ?_
      refine VD.setv 114 rfl (show cur.s.val = w1.val by rw [hcs]; exact hv_w1.symm) ?_
      refine Zw rfl (q_move rfl) ?_
      refine Zw rfl (q_move rfl) ?_
      refine Zw rfl (q_move rfl) ?_
      refine Zw rfl (q_add rfl rfl ⟨by omega, by omega⟩) ?_
      refine Zw rfl (q_ixo (s := w0) Tryz.underlying347 sz26 rfl rfl (by omega) (by omega)) ?_
      refine Zw rfl (q_elo (s := w0) 26 one26 rfl hnxt rfl) ?_
      refine Zw rfl (q_move rfl) ?_
      refine Zw rfl (q_add rfl rfl ⟨by omega, by omega⟩) ?_
      obtain ⟨z123, hz123⟩ : ∃ z, nxt.s.l[((j + 1)).toNat]? = some z := ⟨_, List.getElem?_eq_getElem (by omega)⟩
      refine Zw rfl (q_ixm (s := nxt.s) Tryz.underlying26 sz3 rfl rfl (by omega) (by omega)) ?_
      refine Zw rfl (q_el (s := nxt.s) one3 rfl hz123 rfl) ?_
      have hbz := hL (by omega) (by omega) hz123
      have hle := lcs_le (a.l.drop (i + 1).toNat) (b.l.drop (j + 1).toNat)
      have hdl : (a.l.drop (i + 1).toNat).length ≤ 256 := by rw [List.length_drop]; omega
      refine Zw rfl (q_add rfl rfl ⟨by omega, by omega⟩) ?_
      obtain ⟨z126, hz126⟩ : ∃ z, w1.l[(j).toNat]? = some z := ⟨_, List.getElem?_eq_getElem (by omega)⟩
      refine Zw rfl (q_ixo (s := w1) Tryz.underlying26 sz3 rfl rfl (by omega) (by omega)) ?_
      refine VD.one rfl ?_
      refine VL.storeE (s := w1) (T := 3) (j := 0) (vc := [i64 (z123 + 1)]) ((z123 + 1) : Int) (by decide) rfl rfl hz126 rfl sz3 rfl rfl (Nat.le_of_ble_eq_true rfl) rfl (fun w4 hw4 haw4 hcw4 hvw4 hbw4 how4 => ?_)
      rw [← hvw4]
      refine VL.back (D' := []) (by kernel_rfl) (Pend.nil) ?_
      refine VD.to (fun _ _ h => h) ?_
      refine Zr ?_
      refine Zm ?_
      refine Zu (q_sub rfl rfl ⟨by omega, by omega⟩) ?_
      refine Za ?_
      refine VL.anyI ((j - 1), w4) [0, 1, 4, 5, 6, 7] (fun _ _ h => h) ?_ rfl (by (try dsimp only); exact EntO.out)
      try dsimp only
      have e49 := hL (by omega) (by omega) hz49
      have e65 : z65 = z49 := by
        rw [hw1, List.getElem?_set_self (by omega)] at hz65; exact (Option.some.inj hz65).symm
      have e58 : z58 = lcs (a.l.drop i.toNat) (b.l.drop (j + 1).toNat) := by
        rw [hw1, List.getElem?_set_ne (by omega), hrow (j + 1).toNat (.inl (by omega)) (by omega)] at hz58; exact (Option.some.inj hz58).symm
      first
        | (have e79 : z79 = z58 := Option.some.inj (hz79.symm.trans hz58)
           have e99 := hL (by omega) (by omega) hz99
           have e123 := hL (by omega) (by omega) hz123
           have e107 : z107 = z79 := by
             rw [hw2, List.getElem?_set_self (by omega)] at hz107; exact (Option.some.inj hz107).symm
           have key := crow_step hz84 hz88 (by omega) (by omega) e49 e58 e123 (m := z79) (n := z123 + 1) (by rw [if_pos (by omega)]; exact e79) (by rw [if_pos ⟨h91, by omega⟩])
           have fin := inner_fin (l' := w3.l) hsl (by omega) j1 (by omega) hrow (by rw [hw3, hw2, hw1, List.set_set, List.set_set]) key
           exact ⟨⟨by omega, by omega, fin.1, hvw3.trans hv_w2, fin.2⟩, by omega⟩)
        | (have e79 : z79 = z58 := Option.some.inj (hz79.symm.trans hz58)
           have e99 := hL (by omega) (by omega) hz99
           have e107 : z107 = z79 := by
             rw [hw2, List.getElem?_set_self (by omega)] at hz107; exact (Option.some.inj hz107).symm
           have key := crow_step hz84 hz88 (by omega) (by omega) e49 e58 e99 (m := z79) (n := z79) (by rw [if_pos (by omega)]; exact e79) (by rw [if_neg (fun q => by have := q.2; omega)])
           have fin := inner_fin (l' := w2.l) hsl (by omega) j1 (by omega) hrow (by rw [hw2, hw1, List.set_set]) key
           exact ⟨⟨by omega, by omega, fin.1, hv_w2, fin.2⟩, by omega⟩)
        | (have e79 : z79 = z58 := Option.some.inj (hz79.symm.trans hz58)
           have key := crow_step hz84 hz88 (by omega) (by omega) e49 e58 rfl (m := z79) (n := z79) (by rw [if_pos (by omega)]; exact e79) (by rw [if_neg (fun q => h91 q.1)])
           have fin := inner_fin (l' := w2.l) hsl (by omega) j1 (by omega) hrow (by rw [hw2, hw1, List.set_set]) key
           exact ⟨⟨by omega, by omega, fin.1, hv_w2, fin.2⟩, by omega⟩)
        | (have e99 := hL (by omega) (by omega) hz99
           have e123 := hL (by omega) (by omega) hz123
           have e107 : z107 = z49 := by
             rw [hw1, List.getElem?_set_self (by omega)] at hz107; exact (Option.some.inj hz107).symm
           have key := crow_step hz84 hz88 (by omega) (by omega) e49 e58 e123 (m := z49) (n := z123 + 1) (by rw [if_neg (by omega)]) (by rw [if_pos ⟨h91, by omega⟩])
           have fin := inner_fin (l' := w4.l) hsl (by omega) j1 (by omega) hrow (by rw [hw4, hw1, List.set_set]) key
           exact ⟨⟨by omega, by omega, fin.1, hvw4.trans hv_w1, fin.2⟩, by omega⟩)
        | (have e99 := hL (by omega) (by omega) hz99
           have e107 : z107 = z49 := by
             rw [hw1, List.getElem?_set_self (by omega)] at hz107; exact (Option.some.inj hz107).symm
           have key := crow_step hz84 hz88 (by omega) (by omega) e49 e58 e99 (m := z49) (n := z49) (by rw [if_neg (by omega)]) (by rw [if_neg (fun q => by have := q.2; omega)])
           have fin := inner_fin (l' := w1.l) hsl (by omega) j1 (by omega) hrow hw1 key
           exact ⟨⟨by omega, by omega, fin.1, hv_w1, fin.2⟩, by omega⟩)
        | (have key := crow_step hz84 hz88 (by omega) (by omega) e49 e58 rfl (m := z49) (n := z49) (by rw [if_neg (by omega)]) (by rw [if_neg (fun q => h91 q.1)])
           have fin := inner_fin (l' := w1.l) hsl (by omega) j1 (by omega) hrow hw1 key
           exact ⟨⟨by omega, by omega, fin.1, hv_w1, fin.2⟩, by omega⟩)
     refine Zk ?_
     refine Zr ?_
     refine Zm ?_
     refine Zu (q_sub rfl rfl ⟨by omega, by omega⟩) ?_
     refine Za ?_
     refine VL.anyI ((j - 1), w1) [0, 1, 4, 5, 6, 7] (fun _ _ h => h) ?_ rfl (by (try dsimp only); exact EntO.out)
     try dsimp only
     have e49 := hL (by omega) (by omega) hz49
     have e65 : z65 = z49 := by
       rw [hw1, List.getElem?_set_self (by omega)] at hz65; exact (Option.some.inj hz65).symm
     have e58 : z58 = lcs (a.l.drop i.toNat) (b.l.drop (j + 1).toNat) := by
       rw [hw1, List.getElem?_set_ne (by omega), hrow (j + 1).toNat (.inl (by omega)) (by omega)] at hz58; exact (Option.some.inj hz58).symm
     first
       | (have e79 : z79 = z58 := Option.some.inj (hz79.symm.trans hz58)
          have e99 := hL (by omega) (by omega) hz99
          have e123 := hL (by omega) (by omega) hz123
          have e107 : z107 = z79 := by
            rw [hw2, List.getElem?_set_self (by omega)] at hz107; exact (Option.some.inj hz107).symm
          have key := crow_step hz84 hz88 (by omega) (by omega) e49 e58 e123 (m := z79) (n := z123 + 1) (by rw [if_pos (by omega)]; exact e79) (by rw [if_pos ⟨h91, by omega⟩])
          have fin := inner_fin (l' := w3.l) hsl (by omega) j1 (by omega) hrow (by rw [hw3, hw2, hw1, List.set_set, List.set_set]) key
          exact ⟨⟨by omega, by omega, fin.1, hvw3.trans hv_w2, fin.2⟩, by omega⟩)
       | (have e79 : z79 = z58 := Option.some.inj (hz79.symm.trans hz58)
          have e99 := hL (by omega) (by omega) hz99
          have e107 : z107 = z79 := by
            rw [hw2, List.getElem?_set_self (by omega)] at hz107; exact (Option.some.inj hz107).symm
          have key := crow_step hz84 hz88 (by omega) (by omega) e49 e58 e99 (m := z79) (n := z79) (by rw [if_pos (by omega)]; exact e79) (by rw [if_neg (fun q => by have := q.2; omega)])
          have fin := inner_fin (l' := w2.l) hsl (by omega) j1 (by omega) hrow (by rw [hw2, hw1, List.set_set]) key
          exact ⟨⟨by omega, by omega, fin.1, hv_w2, fin.2⟩, by omega⟩)
       | (have e79 : z79 = z58 := Option.some.inj (hz79.symm.trans hz58)
          have key := crow_step hz84 hz88 (by omega) (by omega) e49 e58 rfl (m := z79) (n := z79) (by rw [if_pos (by omega)]; exact e79) (by rw [if_neg (fun q => h91 q.1)])
          have fin := inner_fin (l' := w2.l) hsl (by omega) j1 (by omega) hrow (by rw [hw2, hw1, List.set_set]) key
          exact ⟨⟨by omega, by omega, fin.1, hv_w2, fin.2⟩, by omega⟩)
       | (have e99 := hL (by omega) (by omega) hz99
          have e123 := hL (by omega) (by omega) hz123
          have e107 : z107 = z49 := by
            rw [hw1, List.getElem?_set_self (by omega)] at hz107; exact (Option.some.inj hz107).symm
          have key := crow_step hz84 hz88 (by omega) (by omega) e49 e58 e123 (m := z49) (n := z123 + 1) (by rw [if_neg (by omega)]) (by rw [if_pos ⟨h91, by omega⟩])
          have fin := inner_fin (l' := w4.l) hsl (by omega) j1 (by omega) hrow (by rw [hw4, hw1, List.set_set]) key
          exact ⟨⟨by omega, by omega, fin.1, hvw4.trans hv_w1, fin.2⟩, by omega⟩)
       | (have e99 := hL (by omega) (by omega) hz99
          have e107 : z107 = z49 := by
            rw [hw1, List.getElem?_set_self (by omega)] at hz107; exact (Option.some.inj hz107).symm
          have key := crow_step hz84 hz88 (by omega) (by omega) e49 e58 e99 (m := z49) (n := z49) (by rw [if_neg (by omega)]) (by rw [if_neg (fun q => by have := q.2; omega)])
          have fin := inner_fin (l' := w1.l) hsl (by omega) j1 (by omega) hrow hw1 key
          exact ⟨⟨by omega, by omega, fin.1, hv_w1, fin.2⟩, by omega⟩)
       | (have key := crow_step hz84 hz88 (by omega) (by omega) e49 e58 rfl (m := z49) (n := z49) (by rw [if_neg (by omega)]) (by rw [if_neg (fun q => h91 q.1)])
          have fin := inner_fin (l' := w1.l) hsl (by omega) j1 (by omega) hrow hw1 key
          exact ⟨⟨by omega, by omega, fin.1, hv_w1, fin.2⟩, by omega⟩)
    refine Zd ?_
    refine Zd ?_
    refine Zd ?_
    refine Zd ?_
    refine Zd ?_
    refine Zd ?_
    refine Zd ?_
    refine Zd ?_
    refine Zd ?_
    refine Zd ?_
    refine Zd ?_
    refine Zd ?_
    refine Zd ?_
    refine Zd ?_
    refine Zd ?_
    refine Zd ?_
    refine Zd ?_
    refine Zd ?_
    refine Zw rfl (q_pick_f rfl rfl) ?_
    refine VD.to (fun _ _ h => h) ?_
    refine VC.cond_f rfl ?_
    refine Zk ?_
    refine Zr ?_
    refine Zm ?_
    refine Zu (q_sub rfl rfl ⟨by omega, by omega⟩) ?_
    refine Za ?_
    refine VL.anyI ((j - 1), w1) [0, 1, 4, 5, 6, 7] (fun _ _ h => h) ?_ rfl (by (try dsimp only); exact EntO.out)
    try dsimp only
    have e49 := hL (by omega) (by omega) hz49
    have e65 : z65 = z49 := by
      rw [hw1, List.getElem?_set_self (by omega)] at hz65; exact (Option.some.inj hz65).symm
    have e58 : z58 = lcs (a.l.drop i.toNat) (b.l.drop (j + 1).toNat) := by
      rw [hw1, List.getElem?_set_ne (by omega), hrow (j + 1).toNat (.inl (by omega)) (by omega)] at hz58; exact (Option.some.inj hz58).symm
    first
      | (have e79 : z79 = z58 := Option.some.inj (hz79.symm.trans hz58)
         have e99 := hL (by omega) (by omega) hz99
         have e123 := hL (by omega) (by omega) hz123
         have e107 : z107 = z79 := by
           rw [hw2, List.getElem?_set_self (by omega)] at hz107; exact (Option.some.inj hz107).symm
         have key := crow_step hz84 hz88 (by omega) (by omega) e49 e58 e123 (m := z79) (n := z123 + 1) (by rw [if_pos (by omega)]; exact e79) (by rw [if_pos ⟨h91, by omega⟩])
         have fin := inner_fin (l' := w3.l) hsl (by omega) j1 (by omega) hrow (by rw [hw3, hw2, hw1, List.set_set, List.set_set]) key
         exact ⟨⟨by omega, by omega, fin.1, hvw3.trans hv_w2, fin.2⟩, by omega⟩)
      | (have e79 : z79 = z58 := Option.some.inj (hz79.symm.trans hz58)
         have e99 := hL (by omega) (by omega) hz99
         have e107 : z107 = z79 := by
           rw [hw2, List.getElem?_set_self (by omega)] at hz107; exact (Option.some.inj hz107).symm
         have key := crow_step hz84 hz88 (by omega) (by omega) e49 e58 e99 (m := z79) (n := z79) (by rw [if_pos (by omega)]; exact e79) (by rw [if_neg (fun q => by have := q.2; omega)])
         have fin := inner_fin (l' := w2.l) hsl (by omega) j1 (by omega) hrow (by rw [hw2, hw1, List.set_set]) key
         exact ⟨⟨by omega, by omega, fin.1, hv_w2, fin.2⟩, by omega⟩)
      | (have e79 : z79 = z58 := Option.some.inj (hz79.symm.trans hz58)
         have key := crow_step hz84 hz88 (by omega) (by omega) e49 e58 rfl (m := z79) (n := z79) (by rw [if_pos (by omega)]; exact e79) (by rw [if_neg (fun q => h91 q.1)])
         have fin := inner_fin (l' := w2.l) hsl (by omega) j1 (by omega) hrow (by rw [hw2, hw1, List.set_set]) key
         exact ⟨⟨by omega, by omega, fin.1, hv_w2, fin.2⟩, by omega⟩)
      | (have e99 := hL (by omega) (by omega) hz99
         have e123 := hL (by omega) (by omega) hz123
         have e107 : z107 = z49 := by
           rw [hw1, List.getElem?_set_self (by omega)] at hz107; exact (Option.some.inj hz107).symm
         have key := crow_step hz84 hz88 (by omega) (by omega) e49 e58 e123 (m := z49) (n := z123 + 1) (by rw [if_neg (by omega)]) (by rw [if_pos ⟨h91, by omega⟩])
         have fin := inner_fin (l' := w4.l) hsl (by omega) j1 (by omega) hrow (by rw [hw4, hw1, List.set_set]) key
         exact ⟨⟨by omega, by omega, fin.1, hvw4.trans hv_w1, fin.2⟩, by omega⟩)
      | (have e99 := hL (by omega) (by omega) hz99
         have e107 : z107 = z49 := by
           rw [hw1, List.getElem?_set_self (by omega)] at hz107; exact (Option.some.inj hz107).symm
         have key := crow_step hz84 hz88 (by omega) (by omega) e49 e58 e99 (m := z49) (n := z49) (by rw [if_neg (by omega)]) (by rw [if_neg (fun q => by have := q.2; omega)])
         have fin := inner_fin (l' := w1.l) hsl (by omega) j1 (by omega) hrow hw1 key
         exact ⟨⟨by omega, by omega, fin.1, hv_w1, fin.2⟩, by omega⟩)
      | (have key := crow_step hz84 hz88 (by omega) (by omega) e49 e58 rfl (m := z49) (n := z49) (by rw [if_neg (by omega)]) (by rw [if_neg (fun q => h91 q.1)])
         have fin := inner_fin (l' := w1.l) hsl (by omega) j1 (by omega) hrow hw1 key
         exact ⟨⟨by omega, by omega, fin.1, hv_w1, fin.2⟩, by omega⟩)
   refine Zx ?_
   refine VC.shut s 3 (fun _ _ _ _ => trivial) ?_
   obtain ⟨o2, ho2, ho2v, ho2o⟩ : ∃ o2 : Sv Hd, o2.l = o.l.set i.toNat ⟨s⟩ ∧ o2.val = w0.val ∧ ∀ z, w0.own 26 z → o2.own 26 z := ⟨⟨w0.a, w0.c, o.l.set i.toNat ⟨s⟩⟩, rfl, (by unfold Sv.val; rw [hw0]; simp), own_same rfl rfl (by rw [hw0]; exact hd_set hv_s)⟩
   rw [← ho2v]
   refine VC.mono (fun _ h => h) (E' := Ow.star (o2.own 26) Ow.emp) (fun z q => by obtain ⟨x, y, d, e, q1, q2⟩ := q; exact ⟨x, y, d, e, ho2o x q1, q2⟩) ?_
   refine Zr ?_
   refine Zm ?_
   refine Zu (q_sub rfl rfl ⟨by omega, by omega⟩) ?_
   refine Za ?_
   refine VL.any ((i - 1), o2) [0, 1, 4, 5, 5, 6] (fun _ _ h => h) ?_ rfl (fun hp q => ⟨by rw [ho2]; exact MR_step q.2.1 q.1 (by omega), q.2.2⟩) (by (try dsimp only); exact EntO.out)
   try dsimp only
   exact ⟨⟨by omega, by omega, by rw [ho2, List.length_set]; exact hol, by rw [ho2]; exact rows_step (by omega) hol hrows (crow_of hsl fun k hk => hrow k (by first | exact .inl (by omega) | exact .inr (by omega)) hk)⟩, by omega⟩
  refine Zy ?_
  refine VC.cond_f rfl ?_
  refine Zx ?_
  refine VC.shut s 3 (fun _ _ _ _ => trivial) ?_
  obtain ⟨o2, ho2, ho2v, ho2o⟩ : ∃ o2 : Sv Hd, o2.l = o.l.set i.toNat ⟨s⟩ ∧ o2.val = w0.val ∧ ∀ z, w0.own 26 z → o2.own 26 z := ⟨⟨w0.a, w0.c, o.l.set i.toNat ⟨s⟩⟩, rfl, (by unfold Sv.val; rw [hw0]; simp), own_same rfl rfl (by rw [hw0]; exact hd_set hv_s)⟩
  rw [← ho2v]
  refine VC.mono (fun _ h => h) (E' := Ow.star (o2.own 26) Ow.emp) (fun z q => by obtain ⟨x, y, d, e, q1, q2⟩ := q; exact ⟨x, y, d, e, ho2o x q1, q2⟩) ?_
  refine Zr ?_
  refine Zm ?_
  refine Zu (q_sub rfl rfl ⟨by omega, by omega⟩) ?_
  refine Za ?_
  refine VL.any ((i - 1), o2) [0, 1, 4, 5, 5, 6] (fun _ _ h => h) ?_ rfl (fun hp q => ⟨by rw [ho2]; exact MR_step q.2.1 q.1 (by omega), q.2.2⟩) (by (try dsimp only); exact EntO.out)
  try dsimp only
  exact ⟨⟨by omega, by omega, by rw [ho2, List.length_set]; exact hol, by rw [ho2]; exact rows_step (by omega) hol hrows (crow_of hsl fun k hk => hrow k (by first | exact .inl (by omega) | exact .inr (by omega)) hk)⟩, by omega⟩
 refine Zx ?_
 refine Zq (Zr ?_)
 refine Zy ?_
 obtain rfl : i = -1 := by omega
 refine VC.shut o 26 (fun _ _ _ _ => trivial) ?_
 refine VC.addM (rowsV o).ok (fun h q => rowsV_ok q.1 q.2.1) ?_
 exact VC.ret (fin1I (.inr rfl) rfl rfl (rowsV o) ((rowsV_val o).symm) ((rows_fin hol hrows)) (fun _ _ => trivial))
end Go.Proofs.YtleokmhhloamaaaGreatDoor
end

section
namespace Go.S
abbrev Str := List UInt8
structure FilesFile where
  path : Str
  mode : Int
  data : Str
  deriving DecidableEq
structure IndexEntry where
  path : Str
  stage : Int
  mode : Int
  data : Str
  time : Int
  size : Int
  deriving DecidableEq
structure TmergeResultP where
  files : List FilesFile
  entries : List IndexEntry
  conflicts : List Str
  deriving DecidableEq
structure TmergeOne where
  file_path : Str
  file_mode : Int
  file_data : Str
  is : Bool
  deriving DecidableEq
structure DiffTableP where
  a : List Str
  b : List Str
  n : List Int
  deriving DecidableEq
structure DiffEdit where
  op : Int
  line : Str
  deriving DecidableEq
structure DiffMatch where
  a : Int
  b : Int
  n : Int
  deriving DecidableEq
structure Rectoref14File where
  path : Str
  mode : Int
  data : Str
  deriving DecidableEq
structure Rectoref3Part where
  word : Str
  at_ : Int
  deriving DecidableEq
structure Rectoref3WrongP where
  parts : List Rectoref3Part
  err : Int
  deriving DecidableEq
structure Rectoref11Edit where
  op : Int
  line : Str
  deriving DecidableEq
structure Rectoref11ChunkP where
  base : List Str
  ours : List Str
  theirs : List Str
  clash : Bool
  out : List Str
  deriving DecidableEq
structure Rectoref14Entry where
  path : Str
  stage : Int
  mode : Int
  data : Str
  time : Int
  size : Int
  deriving DecidableEq
structure Rectoref14ResultP where
  files : List Rectoref14File
  entries : List Rectoref14Entry
  conflicts : List Str
  deriving DecidableEq
structure ApiFaultP where
  part : Str
  at_ : Int
  err : Err
  deriving DecidableEq
end Go.S
end

section
namespace Go.V
open Go.RowKit Go.S
class Ext (M0 M : Mo) : Prop where
  out : ∀ h, M.on h → M0.on h
instance (priority := 2000) Ext.refl (M : Mo) : Ext M M := ⟨fun _ x => x⟩
instance (priority := 1000) Ext.tail (M0 A B : Mo) [i : Ext M0 B] : Ext M0 (A.and B) := ⟨fun h x => i.out h x.2⟩
instance Ext.tt (M : Mo) : Ext Mo.tt M := ⟨fun _ _ => trivial⟩
instance (priority := 2500) InM.svNil {α : Type} [Dat α] (M : Mo) : InM M (⟨none, 0, []⟩ : Sv α).ok := ⟨fun _ _ => ⟨Nat.le_refl _, by simp [maxLen], fun h => absurd rfl h, fun _ _ h => by simp at h, fun _ h => by cases h⟩⟩
def MAl {α : Type} [Dat α] (l : List α) : Mo := ⟨fun h => ∀ z ∈ l, (Dat.deep z).on h, fun u x z hz => (Dat.deep z).up u (x z hz)⟩
section
variable {P : Program} {N : Nat} {c : Cx} {ops : Array Oper} {Q Q1 : Exit → Act → World → Prop} {rest : List Oper} {o : Oper} {ρ : Env} {M M' M1 M0 : Mo} {E E1 F A : Ow} {v u : Value} {X S T R : Type}
  {d : Nat} {od : Option Nat} {ty : TypeId} {pos : String} {after : Array Edge} {gd : Option (Nat × Bool)} {x y : Operand} {t t' e : TypeId} {α : Type} [Dat α] {f : FuncId} {args : List Value} {p q : Code}
theorem VC.cutJ {K : T → Option R} {G : (T → Option R) → Option R} {r : R} (pu : S → T) (ρ' : S → Env) (Mx : S → Mo) (E' : S → Ow) (hS : jn K G = some r)
    (h1 : ∀ k : T → Option R, G k = some r → VC P N c (Exit.then (Any (fun s => k (pu s) = some r) P N c ρ' (fun s => (Mx s).and M) E') Q) p ρ M E) (h2 : ∀ s, K (pu s) = some r → VC P N c Q q (ρ' s) ((Mx s).and M) (E' s)) : VC P N c Q (.seq p q) ρ M E := VC.cut (fun s => K (pu s) = some r) ρ' _ E' (h1 K hS) h2
theorem VL.mt {φ : S → Prop} {ρ' : S → Env} {Mx : S → Mo} {E' : S → Ow} (s : S) (ks : List Nat) (hq : ∀ a w, Any φ P N c ρ' (fun s => (Mx s).and M0) E' a w → Q .normal a w) (hφ : φ s) (e : ρ.keep ks = ρ' s) [i : InM M (Mx s)] [j : Ext M0 M] [l : EntO E (E' s)] : VL P N c ops Q [] ρ M E :=
  VL.any s ks hq hφ e (fun h m => ⟨i.out h m, j.out h m⟩) l.out
theorem VD.mt {D : List (Nat × Value)} {φ : S → Prop} {ρ' : S → Env} {Mx : S → Mo} {E' : S → Ow} (s : S) (ks : List Nat) (hq : ∀ a w, Any φ P N c ρ' (fun s => (Mx s).and M0) E' a w → Q .normal a w) (hφ : φ s) (e : ρ.keep ks = ρ' s) [i : InM M (Mx s)] [j : Ext M0 M] [l : EntO E (E' s)] : VD P N c ops Q [] D ρ M E :=
  VD.any s ks hq hφ e (fun h m => ⟨i.out h m, j.out h m⟩) l.out
theorem VC.skip_mt {φ : S → Prop} {ρ' : S → Env} {Mx : S → Mo} {E' : S → Ow} (s : S) (ks : List Nat) (hq : ∀ a w, Any φ P N c ρ' (fun s => (Mx s).and M0) E' a w → Q .normal a w) (hφ : φ s) (e : ρ.keep ks = ρ' s) [i : InM M (Mx s)] [j : Ext M0 M] [l : EntO E (E' s)] : VC P N c Q .skip ρ M E :=
  VC.skip_any s ks hq hφ e (fun h m => ⟨i.out h m, j.out h m⟩) l.out
theorem VC.exit_mt {id : Nat} {φ : S → Prop} {ρ' : S → Env} {Mx : S → Mo} {E' : S → Ow} (s : S) (ks : List Nat) (hq : ∀ a w, Any φ P N c ρ' (fun s => (Mx s).and M0) E' a w → Q (.exit id) a w) (hφ : φ s) (e : ρ.keep ks = ρ' s) [i : InM M (Mx s)] [j : Ext M0 M] [l : EntO E (E' s)] : VC P N c Q (.exit id) ρ M E :=
  VC.exit fun a w g st => hq a w ⟨s, hφ, g.sub (Env.sub_of e), st.mono (fun h m => ⟨i.out h m, j.out h m⟩) l.out⟩
def Rnd {S T R : Type} (B : T → Option (T ⊕ R)) (e : R) (m : Nat) (pu : S → T) (P : Program) (N : Nat) (c : Cx) (ρ' : S → Env) (Mx : S → Mo) (M0 : Mo) (E' : S → Ow) (a : Act) (w : World) : Prop :=
  ∃ (s : S) (k : Nat), iterN B k (pu s) = some e ∧ k < m + 1 ∧ Agr N (ρ' s) a ∧ St c ((Mx s).and M0) (E' s) w
theorem VC.iter {B : T → Option (T ⊕ R)} {r : R} (pu : S → T) (ρ' : S → Env) (Mx : S → Mo) (E' : S → Ow) (s0 : S) (ks : List Nat) (he : iter B (pu s0) = some r) (hρ : ρ.keep ks = ρ' s0) [i : InM M (Mx s0)] [l : EntO E (E' s0)]
    (round : ∀ s m y, B (pu s) = some y → Step B m r y → VC P N c (Exit.then (Rnd B r m pu P N c ρ' Mx M E') Q) p (ρ' s) ((Mx s).and M) (E' s)) : VC P N c Q (.loop p) ρ M E := by
  obtain ⟨n, hn⟩ := iter_ex he
  refine VC.loop (S := S × Nat) (fun s => iterN B s.2 (pu s.1) = some r) (fun s => ρ' s.1) (fun s => (Mx s.1).and M) (fun s => E' s.1) (fun s => s.2) (s0, n) ks hn hρ (fun h m => ⟨i.out h m, m⟩) l.out ?_
  rintro ⟨s, k⟩ hk
  obtain ⟨m, y, h1, h2, h3⟩ := iterN_s hk
  subst h1
  intro a w g st
  refine Code.wp_mono ?_ (round s m y h2 h3 a w g st)
  intro ex a' w' hx
  cases ex with
  | normal =>
    obtain ⟨s', k', q1, q2, q3, q4⟩ := hx
    exact ⟨(s', k'), ⟨q1, q2⟩, q3, q4⟩
  | _ => exact hx
theorem VL.rnd {B : T → Option (T ⊕ R)} {r : R} {m : Nat} {pu : S → T} {ρ' : S → Env} {Mx : S → Mo} {E' : S → Ow} (s : S) (ks : List Nat) (hq : ∀ a w, Rnd B r m pu P N c ρ' Mx M0 E' a w → Q .normal a w) (hφ : iterN B m (pu s) = some r) (e : ρ.keep ks = ρ' s) [i : InM M (Mx s)] [j : Ext M0 M] [l : EntO E (E' s)] : VL P N c ops Q [] ρ M E :=
  VL.nil fun a w g st => hq a w ⟨s, m, hφ, Nat.lt_succ_self m, g.sub (Env.sub_of e), st.mono (fun h m => ⟨i.out h m, j.out h m⟩) l.out⟩
theorem up2 {B : T → Option (T ⊕ R)} {o : Option R} {y : T ⊕ R} {m : Nat} {e : R} (h : up o = some y) (k : Step B m e y) : o = some e := by
  obtain ⟨c, h1, rfl⟩ := up_s h
  rw [h1]; exact congrArg some k
theorem go2 {B : T → Option (T ⊕ R)} {t : T} {y : T ⊕ R} {m : Nat} {e : R} (h : go t = some y) (k : Step B m e y) : iterN B m t = some e := by
  cases go_s h; exact k
theorem it_b {β : Type} {b : Bool} {x y : Option β} {r : β} (hb : b = false) (h : (if b = true then x else y) = some r) : y = some r := by
  rw [hb] at h; exact h
theorem q_catE {s s' z : List UInt8} (e1 : ρ.ev x = some (str s)) (e2 : ρ.ev y = some (str s')) (h : s.length + s'.length ≤ 9223372036854775807) (q : s ++ s' = z) : Qt P N c ⟨od, .binOp .add t x y t', ty, pos, after, gd⟩ (str z) ρ M E := by
  subst q; exact q_cat e1 e2 h
theorem q_stoE {s z : List UInt8} {k : IntKind} {n : Int} (hu : P.underlying t = some .string) (e1 : ρ.ev x = some (str s)) (e2 : ρ.ev y = some (.int k n)) (h0 : 0 ≤ n) (h1 : n ≤ s.length) (q : s.take n.toNat = z) : Qt P N c ⟨od, .slice t x none (some y) none, ty, pos, after, gd⟩ (str z) ρ M E := by
  subst q; exact q_sto hu e1 e2 h0 h1
theorem q_sfromE {s z : List UInt8} {k : IntKind} {n : Int} (hu : P.underlying t = some .string) (e1 : ρ.ev x = some (str s)) (e2 : ρ.ev y = some (.int k n)) (h0 : 0 ≤ n) (h1 : n ≤ s.length) (q : s.drop n.toNat = z) : Qt P N c ⟨od, .slice t x (some y) none none, ty, pos, after, gd⟩ (str z) ρ M E := by
  subst q; exact q_sfrom hu e1 e2 h0 h1
theorem q_smidE {s v : List UInt8} {k k' : IntKind} {z : Operand} {m n : Int} (hu : P.underlying t = some .string) (e1 : ρ.ev x = some (str s)) (e2 : ρ.ev y = some (.int k m)) (e3 : ρ.ev z = some (.int k' n)) (h0 : 0 ≤ m) (h1 : m ≤ n) (h2 : n ≤ s.length) (q : (s.drop m.toNat).take (n.toNat - m.toNat) = v) : Qt P N c ⟨od, .slice t x (some y) (some z) none, ty, pos, after, gd⟩ (str v) ρ M E := by
  subst q; exact q_smid hu e1 e2 e3 h0 h1 h2
theorem guard_bool (op : BinOp) (a b : Bool) (w : World) : (eqGuard op t x y (.bool a) (.bool b)).run P w = .ok () w := by
  unfold eqGuard
  cases op <;> simp [go_sem] <;> rfl
theorem q_beql {a b : Bool} (hu : P.underlying t = some .bool) (e1 : ρ.ev x = some (.bool a)) (e2 : ρ.ev y = some (.bool b)) : Qt P N c ⟨od, .binOp .eql t x y t', ty, pos, after, gd⟩ (.bool (decide (a = b))) ρ M E := q_bin e1 e2 (guard_bool _ _ _) fun w => by
  rw [Go.run_eql_bool w t a b hu]; cases a <;> cases b <;> rfl
theorem VD.freeze {rr : List (Nat × Bool)} {D : List (Nat × Value)} (hE : Foc E A F) (h1 : ∀ h e, h.off e → M.on h → A e → M'.on (h.join e)) (k : VD P N c ops Q rr D ρ (M'.and M) F) : VD P N c ops Q rr D ρ M E := fun a w g s => k a w g (s.freeze hE h1)
theorem VD.shut {rr : List (Nat × Bool)} {D : List (Nat × Value)} (s : Sv α) (e : TypeId) [j : Fo E (s.own e) F] (hd : ∀ h, M.on h → ∀ z ∈ s.l, (Dat.deep z).on h) (k : VD P N c ops Q rr D ρ (s.ok.and M) F) : VD P N c ops Q rr D ρ M E :=
  VD.freeze j.out (fun a b dd m hA => Sv.own_ok (e := a.join b) (T := e) (by
    obtain ⟨q1, q2, q3⟩ := hA
    refine ⟨q1, q2, q3.imp id fun ⟨g, cur, w1, w2, w3⟩ => ⟨g, cur, w1, Hp.le_join_right dd _ _ w2, w3⟩⟩) fun z hz => (Dat.deep z).up (Hp.le_join_left a b) (hd a m z hz)) k
theorem q_lnm {β : Type} (g : α → β) {s : Sv α} {xs : List Operand} (ht : P.underlying t = some (.slice e)) (h : ρ.evs xs = some [s.val]) : Qt P N c ⟨od, .call { callee := .builtin .len, args := xs.toArray, argTypes := #[t] }, ty, pos, after, gd⟩ (i64 (s.l.map g).length) ρ M E := by
  rw [List.length_map]; exact q_ln ht h
theorem u8_z {n : Int} {z : UInt8} (h : 0 ≤ n ∧ n ≤ 255) (e : UInt8.ofNat n.toNat = z) : n = (z.toNat : Int) := by
  subst e
  have : (UInt8.ofNat n.toNat).toNat = n.toNat := by
    rw [UInt8.toNat_ofNat']
    omega
  rw [this]
  omega
theorem ap1 {a b : Nat} (h : a + b ≤ 4294967296) : a + b ≤ 9007199254740992 := by omega
theorem ap2 {a b bt : Nat} (h : a + b ≤ 4294967296) (hb : bt ≤ 32768) : (a + b) * bt ≤ 140737488355328 := Nat.le_trans (Nat.mul_le_mul h hb) (by decide)
theorem apm {γ β : Type} {g : γ → β} {l r : List γ} (h : (l.map g).length + (r.map g).length ≤ 4294967296) : l.length + r.length ≤ 4294967296 := by simpa using h
theorem VL.sto {s : Sv α} {n : Int} (hu : P.underlying t = some (.slice e)) (hz : (P.info? e).map (·.size) = some (Dat.sz α)) (e0 : ρ.ev x = some s.val) (e1 : ρ.ev y = some (i64 n)) [hs : InM M s.ok] (h0 : 0 ≤ n) (h1 : n ≤ s.l.length) (hd : d < N)
    (kk : ∀ q : Sv α, q.l = s.l.take n.toNat → VL P N c ops Q rest ((d, q.val) :: ρ) (q.ok.and M) E) : VL P N c ops Q (⟨some d, .slice t x none (some y) none, ty, pos, after, none⟩ :: rest) ρ M E :=
  VL.part (lo' := none) (hi' := some n) (mx' := none) 0 n.toNat hu hz e0 rfl (by simp [optv, e1]) rfl rfl (by simp; omega) (.inl rfl) (fun _ => rfl) (by omega) (by omega) hd fun q hq => kk q (by rw [hq]; simp)
theorem VL.smid {s : Sv α} {z : Operand} {m n : Int} (hu : P.underlying t = some (.slice e)) (hz : (P.info? e).map (·.size) = some (Dat.sz α)) (e0 : ρ.ev x = some s.val) (e1 : ρ.ev y = some (i64 m)) (e2 : ρ.ev z = some (i64 n)) [hs : InM M s.ok] (h0 : 0 ≤ m) (h1 : m ≤ n) (h2 : n ≤ s.l.length) (hd : d < N)
    (kk : ∀ q : Sv α, q.l = (s.l.drop m.toNat).take (n.toNat - m.toNat) → VL P N c ops Q rest ((d, q.val) :: ρ) (q.ok.and M) E) : VL P N c ops Q (⟨some d, .slice t x (some y) (some z) none, ty, pos, after, none⟩ :: rest) ρ M E :=
  VL.part (lo' := some m) (hi' := some n) (mx' := none) m.toNat n.toNat hu hz e0 (by simp [optv, e1]) (by simp [optv, e2]) rfl (by simp; omega) (by simp; omega) (.inl rfl) (fun h => by cases h) (by omega) (by omega) hd fun q hq => kk q hq
theorem VL.stom {s : Sv α} {z : Operand} {n : Int} (hu : P.underlying t = some (.slice e)) (hz : (P.info? e).map (·.size) = some (Dat.sz α)) (e0 : ρ.ev x = some s.val) (e1 : ρ.ev y = some (i64 n)) (e2 : ρ.ev z = some (i64 n)) [hs : InM M s.ok] (h0 : 0 ≤ n) (h1 : n ≤ s.l.length) (hd : d < N)
    (kk : ∀ q : Sv α, q.l = s.l.take n.toNat → VL P N c ops Q rest ((d, q.val) :: ρ) (q.ok.and M) E) : VL P N c ops Q (⟨some d, .slice t x none (some y) (some z), ty, pos, after, none⟩ :: rest) ρ M E :=
  VL.part (lo' := none) (hi' := some n) (mx' := some n) 0 n.toNat hu hz e0 rfl (by simp [optv, e1]) (by simp [optv, e2]) rfl (by simp; omega) (.inr (by congr 1; omega)) (fun _ => rfl) (by omega) (by omega) hd fun q hq => kk q (by rw [hq]; simp)
theorem q_fep {b j n : Nat} {cs vs : List Value} {Tb : TypeId} (h1 : AggOf P t n) (e1 : ρ.ev x = some (ptr b j)) [i : HasB E b cs Tb] (hv : (cs.drop j).take n = vs) (hn : vs.length = n) : Qt P N c ⟨od, .load t x, ty, pos, after, gd⟩ (.agg vs.toArray) ρ M E :=
  q_loads h1 hn e1 fun a b' dd m ee k u hk => by
    have := Rd.blk (M := M) (i := i) a b' dd m ee (j + k) u (by
      subst hv
      rw [List.getElem?_take] at hk
      split at hk
      · rw [List.getElem?_drop] at hk; exact hk
      · cases hk)
    rwa [Nat.zero_add] at this
theorem wi64_in {n : Int} (h : -9223372036854775808 ≤ n ∧ n ≤ 9223372036854775807) : IntKind.i64.wrap n = n := IntWalk.i64_in _ h
theorem wu8_in {n : Int} (h : 0 ≤ n ∧ n ≤ 255) : IntKind.u8.wrap n = n := IntWalk.u8_in _ (by omega)
theorem VL.deep (X : Mo) {s : Sv α} {i : Nat} {z : α} (hz : s.l[i]? = some z) [hs : InM M s.ok] (hX : ∀ h, (Dat.deep z).on h → X.on h) (k : VL P N c ops Q rest ρ (X.and M) E) : VL P N c ops Q rest ρ M E :=
  VL.addM X (fun h m => hX h ((hs.out h m).2.2.2.2 z (List.mem_of_getElem? hz))) k
theorem VD.deep {rr : List (Nat × Bool)} {D : List (Nat × Value)} (X : Mo) {s : Sv α} {i : Nat} {z : α} (hz : s.l[i]? = some z) [hs : InM M s.ok] (hX : ∀ h, (Dat.deep z).on h → X.on h) (k : VD P N c ops Q rr D ρ (X.and M) E) : VD P N c ops Q rr D ρ M E :=
  VD.addM X (fun h m => hX h ((hs.out h m).2.2.2.2 z (List.mem_of_getElem? hz))) k
theorem VL.maApp {s s' r : Sv α} (h : s'.l = s.l ++ r.l) [i : InM M (MAl s.l)] [j : InM M r.ok] (k : VL P N c ops Q rest ρ ((MAl s'.l).and M) E) : VL P N c ops Q rest ρ M E :=
  VL.addM (MAl s'.l) (fun hp m z hz => by
    rw [h] at hz
    rcases List.mem_append.1 hz with q | q
    · exact i.out hp m z q
    · exact (j.out hp m).2.2.2.2 z q) k
theorem VC.maNil {s : Sv α} {q : Code} (h : s.l = []) (k : VC P N c Q q ρ ((MAl s.l).and M) E) : VC P N c Q q ρ M E :=
  VC.addM (MAl s.l) (fun hp m z hz => by rw [h] at hz; cases hz) k
end
end Go.V
end

section
namespace Go.V
open Go.RowKit Go.S
class ErNo where
  no : TypeId
  pf : TypeId
inductive Er where
  | nil
  | no (n : Int)
  | fault (b : Nat) (part : Str) (at_ : Int) (e : Er)
def Er.val [i : ErNo] : Er → Value
  | .nil => .nilIface
  | .no n => .iface i.no (i64 n)
  | .fault b _ _ _ => .iface i.pf (ptr b 0)
def Er.ok [ErNo] : Er → Mo
  | .nil => Mo.tt
  | .no _ => Mo.tt
  | .fault b p a e => (Cells b 0 [str p, i64 a, e.val]).and e.ok
def Er.pl : Er → Err
  | .nil => .nil
  | .no n => .no n
  | .fault _ p a e => .fault p a e.pl
def Er.isNil : Er → Bool
  | .nil => true
  | _ => false
section
variable [ErNo]
instance (priority := 2500) InM.erNil (M : Mo) : InM M Er.nil.ok := ⟨fun _ _ => trivial⟩
instance (priority := 2500) InM.erNo (M : Mo) (n : Int) : InM M (Er.no n).ok := ⟨fun _ _ => trivial⟩
instance (priority := 2500) InM.erFault (M : Mo) (b : Nat) (p : Str) (a : Int) (e : Er) [i : InM M (Cells b 0 [str p, i64 a, e.val])] [j : InM M e.ok] : InM M (Er.fault b p a e).ok := ⟨fun h x => ⟨i.out h x, j.out h x⟩⟩
instance : Dat Er := ⟨1, fun e => [e.val], fun _ => rfl, fun _ u h => by cases List.mem_singleton.1 h; rename_i e; cases e <;> rfl, Er.ok⟩
variable {P : Program} {N : Nat} {c : Cx} {ops : Array Oper} {Q Q1 : Exit → Act → World → Prop} {rest : List Oper} {o : Oper} {ρ : Env} {M M' M1 M0 : Mo} {E E1 F A : Ow} {v u : Value} {X S T R : Type}
  {d : Nat} {od : Option Nat} {ty : TypeId} {pos : String} {after : Array Edge} {gd : Option (Nat × Bool)} {x y : Operand} {t t' e : TypeId}
theorem q_ereq {ms : Array (String × TypeId)} (ht : P.underlying t = some (.interface ms)) {z : Er} (h : ρ.ev x = some z.val) : Qt P N c ⟨od, .binOp .eql t x (.const .nilIface) t', ty, pos, after, gd⟩ (.bool (decide (z.pl.isNil = true))) ρ M E := by
  cases z with
  | nil => exact q_nileq ht h
  | no n => exact q_ifeq ht h
  | fault b p a e => exact q_ifeq ht h
theorem q_erne {ms : Array (String × TypeId)} (ht : P.underlying t = some (.interface ms)) {z : Er} (h : ρ.ev x = some z.val) : Qt P N c ⟨od, .binOp .neq t x (.const .nilIface) t', ty, pos, after, gd⟩ (.bool (!decide (z.pl.isNil = true))) ρ M E := by
  cases z with
  | nil => exact q_nilne ht h
  | no n => exact q_ifne ht h
  | fault b p a e => exact q_ifne ht h
end
section
variable {P : Program} {N : Nat} {c : Cx} {ops : Array Oper} {Q Q1 : Exit → Act → World → Prop} {rest : List Oper} {o : Oper} {ρ : Env} {M M' M1 M0 : Mo} {E E1 F A : Ow} {v u : Value} {X S T R : Type}
  {d : Nat} {od : Option Nat} {ty : TypeId} {pos : String} {after : Array Edge} {gd : Option (Nat × Bool)} {x y : Operand} {t t' e : TypeId} {α : Type} [Dat α] {f : FuncId} {args : List Value}
theorem VL.guard {op : Op} {j s : Nat} {w : Bool} (hj : (ops[j]?).bind (·.dst) = some s) (hb : ρ.get s = some (.bool w))
    (k : VL P N c ops Q (⟨od, op, ty, pos, after, none⟩ :: rest) ρ M E) : VL P N c ops Q (⟨od, op, ty, pos, after, some (j, w)⟩ :: rest) ρ M E := fun a w' x y => by
  have h := k a w' x y
  unfold wpList at h ⊢
  rw [if_pos (by rw [wanted_of hj x hb _ rfl]; simp)]
  rw [if_pos (by rfl)] at h
  exact h
inductive RVs (P : Program) (ρ : Env) (M : Mo) (E : Ow) : List ResultVar → List Value → Prop
  | nil : RVs P ρ M E [] []
  | tmp {t : Nat} {v : Value} {rs : List ResultVar} {vs : List Value} (h : ρ.get t = some v) (r : RVs P ρ M E rs vs) : RVs P ρ M E (.tmp t :: rs) (v :: vs)
  | cell {t b n : Nat} {T : TypeId} {cs : List Value} {rs : List ResultVar} {vs : List Value} (hT : AggOf P T n) (h : ρ.get t = some (ptr b 0)) (hn : cs.length = n) (hb : Rd M E b 0 cs) (r : RVs P ρ M E rs vs) : RVs P ρ M E (.cell t T :: rs) (.agg cs.toArray :: vs)
  | cell1 {t b : Nat} {T : TypeId} {v : Value} {rs : List ResultVar} {vs : List Value} (hT : OneCell P T) (h : ρ.get t = some (ptr b 0)) (hb : Rd M E b 0 [v]) (r : RVs P ρ M E rs vs) : RVs P ρ M E (.cell t T :: rs) (v :: vs)
theorem mapM_list {β γ : Type} (g : β → Sem γ) (w : World) : ∀ (l : List β) (r : List γ), (∀ (i : Nat) (x : β) (y : γ), l[i]? = some x → r[i]? = some y → (g x).run P w = .ok y w) → l.length = r.length → (l.mapM g).run P w = .ok r w
  | [], [], _, _ => by simp
  | [], _ :: _, _, h => by simp at h
  | _ :: _, [], _, h => by simp at h
  | x :: l, y :: r, h, hl => by
    have ih := mapM_list g w l r (fun i => h (i + 1)) (by simpa using hl)
    rw [List.mapM_cons]
    simp only [Sem.run_bind, h 0 x y rfl rfl, Result.andThen_ok, ih, Sem.run_pure]
theorem RVs.len {rs : List ResultVar} {vs : List Value} (h : RVs P ρ M E rs vs) : rs.length = vs.length := by induction h <;> simp_all
theorem RVs.run {rs : List ResultVar} {vs : List Value} (h : RVs P ρ M E rs vs) {a : Act} {w : World} (g : Agr N ρ a) (s : St c M E w) : ∀ (i : Nat) (x : ResultVar) (y : Value), rs[i]? = some x → vs[i]? = some y →
    ((match x with
      | .tmp t => pure (a.tmps.getD t undef)
      | .cell b t => do loadVar t (← asAddr (a.tmps.getD b undef)) : Sem Value)).run P w = .ok y w := by
  induction h with
  | nil => intro i x y hx; simp at hx
  | tmp h r ih =>
    intro i x y hx hy
    cases i with
    | zero => simp only [List.getElem?_cons_zero, Option.some.injEq] at hx hy; subst hx; subst hy; simp [g.tmp h]
    | succ i => exact ih i x y (by simpa using hx) (by simpa using hy)
  | @cell t b n T cs rs vs hT h hn hb r ih =>
    intro i x y hx hy
    cases i with
    | zero =>
      simp only [List.getElem?_cons_zero, Option.some.injEq] at hx hy; subst hx; subst hy
      have hl := run_loadCells_list (P := P) w ⟨b, 0, none⟩ cs (fun j u hj => by rw [add_none]; exact hb.cell s hj)
      have hlv : (loadVar T ⟨b, 0, none⟩).run P w = .ok (.agg cs.toArray) w := by
        simp only [loadVar, Sem.run_bind, (hT w).1, (hT w).2, Result.andThen_ok, if_true, ← hn, hl, Sem.run_pure]
      have ha : (asAddr (ptr b 0)).run P w = .ok ⟨b, 0, none⟩ w := rfl
      simp only [g.tmp h, Sem.run_bind, ha, Result.andThen_ok, hlv]
    | succ i => exact ih i x y (by simpa using hx) (by simpa using hy)
  | @cell1 t b T v rs vs hT h hb r ih =>
    intro i x y hx hy
    cases i with
    | zero =>
      simp only [List.getElem?_cons_zero, Option.some.injEq] at hx hy; subst hx; subst hy
      have hc := hb.cell s (j := 0) rfl
      simp only [Nat.add_zero] at hc
      have hlv : (loadVar T ⟨b, 0, none⟩).run P w = .ok v w := by
        simp only [loadVar, Sem.run_bind, hT w, Result.andThen_ok]
        simp [load, Sem.run, hc, go_sem]
      have ha : (asAddr (ptr b 0)).run P w = .ok ⟨b, 0, none⟩ w := rfl
      simp only [g.tmp h, Sem.run_bind, ha, Result.andThen_ok, hlv]
    | succ i => exact ih i x y (by simpa using hx) (by simpa using hy)
def retv : List Value → Value
  | [v] => v
  | vs => .tuple vs.toArray
theorem finG {fn : Func} {val : X → Value} {φ : X → Prop} {M2 : X → Mo} {E2 : X → Ow} {rs : List ResultVar} {vs : List Value} {y : Exit} (hy : y = .normal ∨ y = .ret) (hres : fn.results = rs.toArray) (hv : RVs P ρ M E rs vs) (x : X) (hx : retv vs = val x) (hφ : φ x) (h1 : ∀ h, M.on h → (M2 x).on h) (h2 : ∀ e, E e → E2 x e) :
    ∀ a w, Agr N ρ a → St c M E w → bodyPost P fn (fun en w' => ∃ r, en = .returned r ∧ Post val φ M2 E2 c r w') y a w := fun a w g s => by
  refine post_ret hy (v := retv vs) ?_ g.defers ⟨_, rfl, x, hx, hφ, s.mono h1 h2⟩
  unfold results
  rw [hres]
  have h := mapM_list (P := P) _ w rs vs (hv.run g s) hv.len
  simp only [List.mapM_toArray, Sem.run_bind, Sem.run_map]
  erw [h]
  simp only [Result.andThen_ok, Sem.run_pure]
  congr 1
  cases vs with
  | nil => rfl
  | cons v vs => cases vs <;> simp [retv]
end
end Go.V
end

section
namespace Go.V
open Go.RowKit
section
variable {P : Program} {t t' e : TypeId}
theorem run_appS0 {w : World} {ts : TypeId} {i : TypeInfo} (hu : P.underlying t = some (.slice e)) (hs : P.underlying t' = some .string) (hi : P.info? e = some i) (hsz : i.size = 1) (a : Option Addr) (n c : Nat) (hlc : n ≤ c) :
   (Builtin.append_ #[t, t'] ts #[.slice a n c, .string ⟨⟨[]⟩⟩]).run P w = .ok (.slice a n c) w := by
  have hf := Lib.run_firstCells_string (P := P) w 1 ⟨⟨[]⟩⟩
  have h0 : (⟨⟨[]⟩⟩ : ByteArray).size = 0 := rfl
  rw [h0] at hf
  cases a <;> simp [Builtin.append_, run_underlying hu, run_underlying hs, sizeOf, typeInfo, hi, hsz, Builtin.lenOf, h0, hlc, hf, Lib.strCells, storeCells]
end
open Go.S
instance : Dat UInt8 := ⟨1, fun u => [.int .u8 u.toNat], fun _ => rfl, fun _ _ h => by cases List.mem_singleton.1 h; rfl, fun _ => Mo.tt⟩
instance : Flat UInt8 := ⟨fun _ => rfl⟩
theorem enc_str (l : Str) : l.flatMap (Dat.enc (α := UInt8)) = Lib.strCells ⟨⟨l⟩⟩ := by
  unfold Lib.strCells
  induction l with
  | nil => rfl
  | cons x r ih => simp only [List.flatMap_cons, ih]; rfl
section
variable {P : Program} {N : Nat} {c : Cx} {ops : Array Oper} {Q Q1 : Exit → Act → World → Prop} {rest : List Oper} {o : Oper} {ρ : Env} {M M' M1 M0 : Mo} {E E1 F A : Ow} {v u : Value} {X S T R : Type}
  {d : Nat} {od : Option Nat} {ty : TypeId} {pos : String} {after : Array Edge} {gd : Option (Nat × Bool)} {x y : Operand} {t t' e tb : TypeId} {f : FuncId} {args : List Value}
theorem run_appS {w : World} {h z : Hp} {s : Sv UInt8} {r : Str} {ts : TypeId} {i : TypeInfo} (hu : P.underlying t = some (.slice e)) (hs : P.underlying t' = some .string) (hi : P.info? e = some i) (hz : i.zero = some (.int .u8 0)) (hsz : i.size = 1) (hby : i.bytes = 1)
    (hoff : h.off z) (l : h.le (wh w)) (k : z.le (wh w)) (ho : s.own e z) (hlen : s.l.length + r.length ≤ 4294967296) :
    ∃ (s' : Sv UInt8) (w' : World), (Builtin.append_ #[t, t'] ts #[s.val, str r]).run P w = .ok s'.val w' ∧ s'.l = s.l ++ r ∧ ((s.c = 0 → s.a = none) → s'.c = 0 → s'.a = none) ∧ St ⟨w, h, fun b => z b ≠ none⟩ Mo.tt (s'.own e) w' := by
  have hmax : s.l.length + r.length ≤ maxLen := by unfold maxLen; omega
  have hd : Dat.sz UInt8 = 1 := rfl
  have hrs : (⟨⟨r⟩⟩ : ByteArray).size = r.length := rfl
  obtain ⟨hlc, hcm, hcase⟩ := ho
  by_cases hr0 : r = []
  · have hrun : (Builtin.append_ #[t, t'] ts #[s.val, str r]).run P w = .ok s.val w := by
      rw [hr0]; exact run_appS0 hu hs hi hsz _ _ _ hlc
    refine ⟨s, w, hrun, by simp [hr0], fun q => q, ?_⟩
    rcases hcase with ⟨hl, hc⟩ | ⟨g, cur, ha, hg, hcs, ht⟩
    · exact ⟨⟨h, Hp.nil, trivial, ⟨hlc, hcm, .inl ⟨hl, hc⟩⟩, Hp.nil_off _, l, (fun b p hb => by cases hb), Hp.le.refl h, (fun b hb => .inl hb), (fun b hb => absurd rfl hb)⟩, fun b _ _ => rfl, rfl, rfl, rfl, Nat.le_refl _⟩
    · exact St.turn (A := s.own e) hg hoff trivial l ⟨hlc, hcm, .inr ⟨g, cur, ha, Hp.one_self _ _, hcs, ht⟩⟩ rfl (k _ _ hg) (fun _ _ => rfl) rfl rfl rfl
  · have hrp : 0 < r.length := List.length_pos_iff.2 hr0
    have hcap : ∀ old, s.l.length + r.length ≤ grownCap w (s.l.length + r.length) old e ∧ grownCap w (s.l.length + r.length) old e ≤ maxLen := fun old => ⟨grownCap_ge _ _ _ _, grownCap_le_maxLen _ _ _ _ hmax⟩
    have hz1 : (Value.int IntKind.u8 0).cells.size = 1 := rfl
    have hgrown : ∀ old, St ⟨w, h, fun b => z b ≠ none⟩ Mo.tt ((⟨some ⟨w.heap.size, 0, none⟩, grownCap w (s.l.length + r.length) old e, s.l ++ r⟩ : Sv UInt8).own e)
        (w.drew.alloc (.cells ((s.l.flatMap Dat.enc).toArray ++ (Lib.strCells ⟨⟨r⟩⟩).toArray ++ Builtin.zeroCells (Value.int .u8 0).cells (grownCap w (s.l.length + r.length) old e - (s.l.length + r.length))) e)) := fun old => by
      rw [← enc_str]
      refine St.newO (A := Sv.own _ e) (o := .cells ((s.l.flatMap Dat.enc).toArray ++ (r.flatMap Dat.enc).toArray ++ Builtin.zeroCells (Value.int .u8 0).cells (grownCap w (s.l.length + r.length) old e - (s.l.length + r.length))) e) ?_ trivial l ((Gr.drew w).trans (Gr.alloc w.drew _)) (heap_alloc_new w.drew _)
      refine ⟨by simpa using (hcap old).1, (hcap old).2, .inr ⟨_, _, rfl, Hp.one_self _ _, ?_, ?_⟩⟩
      · simp only [Array.size_append, List.size_toArray, size_zeroCells, hz1, hd, enc_len, Nat.mul_one]
        have := (hcap old).1
        omega
      · have e1 : (s.l ++ r).length * Dat.sz UInt8 = ((s.l.flatMap Dat.enc) ++ (r.flatMap Dat.enc)).length := by rw [List.length_append, List.length_append, enc_len, enc_len, Nat.add_mul]
        simp only [Array.toList_append, e1]
        rw [List.take_left]
        simp
    rcases hcase with ⟨hl, hc⟩ | ⟨g, cur, ha, hg, hcs, ht⟩
    · have hg0 := hgrown 0
      rw [hl] at hg0 hcap
      simp only [List.flatMap_nil, List.length_nil, Nat.zero_add, List.nil_append, Array.empty_append] at hg0 hcap
      refine ⟨⟨some ⟨w.heap.size, 0, none⟩, grownCap w r.length 0 e, r⟩, _, ?_, by rw [hl]; rfl, fun _ q => by have := (hcap 0).1; simp only at q; omega, hg0⟩
      cases hsa : s.a with
      | none =>
        have hsv : s.val = .slice none 0 0 := by unfold Sv.val; rw [hsa, hl, hc]; rfl
        have hrun := run_append_nil_string (P := P) w t t' ts e i (.int .u8 0) hu hs hi hz ⟨⟨r⟩⟩ (by rw [hrs]; omega) (by rw [hrs]; omega) (by rw [hrs, hby]; omega)
        have e1 : ((⟨⟨r⟩⟩ : ByteArray).data.map fun b => Value.int .u8 b.toNat) = (Lib.strCells ⟨⟨r⟩⟩).toArray := by
          apply Array.ext'
          simp [Lib.strCells]
        rw [e1, hrs] at hrun
        rw [hsv]
        exact hrun
      | some ad =>
        have hsv : s.val = .slice (some ad) 0 0 := by unfold Sv.val; rw [hsa, hl, hc]; rfl
        have hrun := Lib.run_append_grow_string (P := P) w t t' ts e i (.int .u8 0) hu hs hi hz ad 0 0 [] (by simp) (fun j v hj => by simp at hj) ⟨⟨r⟩⟩ (by rw [hrs]; omega) (by rw [hrs]; omega) (by rw [hrs, hby]; exact growslice_fits (by omega) (by omega))
        rw [hrs] at hrun
        rw [hsv]
        simpa [Sv.val] using hrun
    · have hsv : s.val = .slice (some ⟨g, 0, none⟩) s.l.length s.c := by unfold Sv.val; rw [ha]
      have hwg : w.heap[g]? = some (.cells cur e (0, 0)) := k _ _ hg
      rw [hd, Nat.mul_one] at hcs ht
      by_cases hroom : s.l.length + r.length ≤ s.c
      · have hrun := Lib.run_append_room_string (P := P) w t t' ts e i hu hs hi hsz g s.l.length s.c cur hwg ⟨⟨r⟩⟩ (by rw [hrs]; exact hroom) (by rw [hrs]; omega)
        rw [hrs] at hrun
        refine ⟨⟨some ⟨g, 0, none⟩, s.c, s.l ++ r⟩, w.setRow g (cur.toList.take s.l.length ++ Lib.strCells ⟨⟨r⟩⟩ ++ cur.toList.drop (s.l.length + r.length)).toArray, ?_, rfl, fun _ q => by simp only at q; omega, ?_⟩
        · rw [hsv]; simpa [Sv.val] using hrun
        · refine St.turn (A := Sv.own _ e) (b := g) hg hoff trivial l ⟨by simpa using hroom, hcm, .inr ⟨g, _, rfl, Hp.one_self _ _, ?_, ?_⟩⟩ (by simp [World.setRow]) (setRow_heap w g cur _ e _ hwg) (fun j hj => setRow_other w g j _ hj) rfl rfl rfl
          · simp only [List.size_toArray, List.length_append, List.length_take, List.length_drop, Array.length_toList, Lib.strCells_length, hd]
            rw [hrs]
            omega
          · rw [ht, ← enc_str]
            have e1 : (s.l ++ r).length * Dat.sz UInt8 = ((s.l.flatMap Dat.enc) ++ (r.flatMap Dat.enc)).length := by rw [List.length_append, List.length_append, enc_len, enc_len, Nat.add_mul]
            simp only [e1]
            rw [List.take_left]
            simp
      · have holds : ∀ j v, (s.l.flatMap Dat.enc)[j]? = some v → w.cell? ((⟨g, 0, none⟩ : Addr).add j) = some v := fun j v hj => by
          rw [add_none]
          have hb' : s.b = g := by simp [Sv.b, ha]
          have ho' : s.o = 0 := by simp [Sv.o, ha]
          have hown : s.own e z := ⟨hlc, hcm, .inr ⟨g, cur, ha, hg, by rw [hd, Nat.mul_one]; exact hcs, by rw [hd, Nat.mul_one]; exact ht⟩⟩
          have := at_all (h := z) (b := s.b) (o := s.o) (fun i x hx => Sv.own_get hown hx) (by decide) j v hj
          rw [hb', ho'] at this
          exact cell_of_le k this
        have hrun := Lib.run_append_grow_string (P := P) w t t' ts e i (.int .u8 0) hu hs hi hz ⟨g, 0, none⟩ s.l.length s.c (s.l.flatMap Dat.enc) (by rw [enc_len, hsz]; rfl) holds ⟨⟨r⟩⟩ (by rw [hrs]; omega) (by rw [hrs]; omega) (by rw [hrs, hby]; exact growslice_fits (by omega) (by omega))
        rw [hrs] at hrun
        refine ⟨⟨some ⟨w.heap.size, 0, none⟩, grownCap w (s.l.length + r.length) s.c e, s.l ++ r⟩, _, ?_, rfl, fun _ q => by have := (hcap s.c).1; simp only at q; omega, hgrown s.c⟩
        rw [hsv]
        simpa [Sv.val] using hrun
theorem VL.appS {s : Sv UInt8} {r : Str} {xs : List Operand} (hu : P.underlying t = some (.slice e)) (hs : P.underlying t' = some .string) (hi : ((P.info? e).map fun i => (i.size, i.bytes, i.zero)) = some (1, 1, some (.int .u8 0)))
    (ha : ρ.evs xs = some [s.val, str r]) (hE : Foc E (s.own e) F) (hlen : s.l.length + r.length ≤ 4294967296) (hd : d < N)
    (k : ∀ s' : Sv UInt8, s'.l = s.l ++ r → ((s.c = 0 → s.a = none) → s'.c = 0 → s'.a = none) → VL P N c ops Q rest ((d, s'.val) :: ρ) M (Ow.star (s'.own e) F)) :
    VL P N c ops Q (⟨some d, .call { callee := .builtin .append, args := xs.toArray, argTypes := #[t, t'] }, ty, pos, after, none⟩ :: rest) ρ M E := by
  cases hj : P.info? e with
  | none => rw [hj] at hi; cases hi
  | some j =>
    rw [hj] at hi
    simp only [Option.map_some, Option.some.injEq, Prod.mk.injEq] at hi
    obtain ⟨h1, h2, h3⟩ := hi
    · refine VL.big (X := Sv UInt8) (φ := fun s' => s'.l = s.l ++ r ∧ ((s.c = 0 → s.a = none) → s'.c = 0 → s'.a = none)) (val := Sv.val) (M2 := fun _ => Mo.tt) (A2 := fun s' => s'.own e) hE (fun a w h z g hoff m hA l kk => ?_) hd fun s' hs' => VL.strip (k s' hs'.1 hs'.2)
      obtain ⟨s', w', q1, q2, q3, q4⟩ := run_appS (P := P) (ts := ty) hu hs hj h3 h1 h2 hoff l kk hA hlen
      refine ⟨s'.val, w', ?_, s', ⟨q2, q3⟩, rfl, q4⟩
      simp only [execOp, resolve, List.map_toArray, g.evs ha, Sem.run_bind, Sem.run_pure, Result.andThen_ok, invoke, builtin, q1]
theorem guard_ptr (op : BinOp) (a b : Option Addr) (w : World) : (eqGuard op t x y (.pointer a) (.pointer b)).run P w = .ok () w := by
  unfold eqGuard
  cases op <;> simp [go_sem] <;> rfl
theorem q_cvE (e1 : ρ.ev x = some v) (h : ∀ a w, Agr N ρ a → St c M E w → (convert t t' v).run P w = .ok u w) : Qt P N c ⟨od, .convert t t' x, ty, pos, after, gd⟩ u ρ M E := Qt.of_run fun a w g s => by
  simp only [execOp, g.ev e1, Sem.run_bind, h a w g s, Result.andThen_ok, Sem.run_pure]
theorem q_ext {xs : List Operand} {ts : Array TypeId} {f : FuncId} {vs : List Value} (ha : ρ.evs xs = some vs) (h : ∀ w, (callFunc f vs.toArray).run P w = .ok (.value v) w) : Qt P N c ⟨od, .call { callee := .value (.func f), args := xs.toArray, argTypes := ts }, ty, pos, after, gd⟩ v ρ M E := Qt.of_run fun a w g s => by
  have e := g.evs ha
  subst e
  simp [execOp, resolve, Act.eval, Deferred.ofValue, invoke, h]
theorem q_sdata {s : Sv UInt8} {xs : List Operand} {ts : Array TypeId} (ha : ρ.evs xs = some [s.val]) (hc : s.c = 0 → s.a = none) : Qt P N c ⟨od, .call { callee := .builtin .unsafeSliceData, args := xs.toArray, argTypes := ts }, ty, pos, after, gd⟩ (.pointer s.a) ρ M E := Qt.of_run fun a w g _ => by
  have h : (Builtin.unsafeSliceData_ ts ty #[s.val]).run P w = .ok (.pointer s.a) w := by
    unfold Sv.val
    cases ha : s.a with
    | none => rfl
    | some q =>
      obtain ⟨k, hk⟩ : ∃ k, s.c = k + 1 := ⟨s.c - 1, by
        have : s.c ≠ 0 := fun e => by have := hc e; rw [ha] at this; cases this
        omega⟩
      rw [hk]; rfl
  simp only [execOp, resolve, List.map_toArray, g.evs ha, Sem.run_bind, Sem.run_pure, Result.andThen_ok, invoke, builtin, h]
theorem VL.ustr {s : Sv UInt8} {xs : List Operand} {pt it : TypeId} (ha : ρ.evs xs = some [.pointer s.a, i64 s.l.length]) (hE : Foc E (s.own e) F) (hd : d < N)
    (H : ∀ w (h z : Hp), h.off z → h.le (wh w) → z.le (wh w) → s.own e z → ∃ w', (Builtin.unsafeString_ #[pt, it] ty #[.pointer s.a, i64 s.l.length]).run P w = .ok (str s.l) w' ∧ St ⟨w, h, fun b => z b ≠ none⟩ Mo.tt Ow.emp w')
    (k : VL P N c ops Q rest ((d, str s.l) :: ρ) M F) : VL P N c ops Q (⟨some d, .call { callee := .builtin .unsafeString, args := xs.toArray, argTypes := #[pt, it] }, ty, pos, after, none⟩ :: rest) ρ M E := by
  refine VL.big (X := Unit) (φ := fun _ => True) (val := fun _ => str s.l) (M2 := fun _ => Mo.tt) (A2 := fun _ => Ow.emp) hE (fun a w h z g hoff m hA l kk => ?_) hd fun _ _ => VL.strip (VL.drop Foc.head k)
  obtain ⟨w', q1, q2⟩ := H w h z hoff l kk hA
  refine ⟨str s.l, w', ?_, (), trivial, rfl, q2⟩
  simp only [execOp, resolve, List.map_toArray, g.evs ha, Sem.run_bind, Sem.run_pure, Result.andThen_ok, invoke, builtin, q1]
def Bd (T e : TypeId) (b : Nat) (l : Str) : Ow := fun z => ∃ (p : Value) (s : Sv UInt8), (p = .pointer none ∨ p = ptr b 0) ∧ s.l = l ∧ (s.c = 0 → s.a = none) ∧ Ow.star (Blk b [p, s.val] T) (s.own e) z
theorem Bd.mk {T e : TypeId} {b : Nat} {l : Str} {p : Value} {s : Sv UInt8} (h1 : p = .pointer none ∨ p = ptr b 0) (h2 : s.l = l) (h3 : s.c = 0 → s.a = none) {z : Hp} (h : Ow.star (Blk b [p, s.val] T) (s.own e) z) : Bd T e b l z := ⟨p, s, h1, h2, h3, h⟩
theorem Ct.exE {P : Program} {f : FuncId} {args : List Value} {M : Mo} {S X : Type} {φ0 : S → Prop} {E0 : S → Ow} {val : X → Value} {φ : X → Prop} {M2 : X → Mo} {E2 : X → Ow} (he : ∀ (xs : Array Value) (w : World), (callFunc f xs).run P w = .ok (.enter f xs) w)
    (h : ∀ s, φ0 s → Ct P f args M (E0 s) val φ M2 E2) : Ct P f args M (fun z => ∃ s, φ0 s ∧ E0 s z) val φ M2 E2 := ⟨he, fun w hp e m ⟨s, q, ee⟩ => (h s q).calls w hp e m ee⟩
theorem Ct.monoE {P : Program} {f : FuncId} {args : List Value} {M : Mo} {X : Type} {E0 E1 : Ow} {val : X → Value} {φ : X → Prop} {M2 : X → Mo} {E2 : X → Ow} (h : Ct P f args M E1 val φ M2 E2) (hE : ∀ z, E0 z → E1 z) : Ct P f args M E0 val φ M2 E2 := ⟨h.entry, fun w hp e m ee => h.calls w hp e m (hE e ee)⟩
theorem run_callV {xs : List Operand} {a : Act} {w : World} {ts : Array TypeId} {f : FuncId} {vs caps : List Value} (hf : ∀ (xs : Array Value) (w : World), (callFunc f xs).run P w = .ok (.enter f xs) w) (hx : a.eval x = .func (.func f) #[] caps.toArray) (ha : xs.map a.eval = vs) :
    (execOp a.eval ⟨od, .call { callee := .value x, args := xs.toArray, argTypes := ts }, ty, pos, after, gd⟩).run P w = .ok (.enter f (vs ++ caps).toArray) w := by
  subst ha
  simp [execOp, resolve, hx, Deferred.ofValue, invoke, hf]
theorem q_callVC {φ : X → Prop} {val : X → Value} {M2 : X → Mo} {E2 : X → Ow} {xs : List Operand} {ts : Array TypeId} {f : FuncId} {vs caps : List Value} (h : Ct P f (vs ++ caps) M1 Ow.emp val φ M2 E2) (hx : ρ.ev x = some (.func (.func f) #[] caps.toArray)) (ha : ρ.evs xs = some vs) [i : InR M E M1] (hv : ∀ y, φ y → val y = v) :
    Qt P N c ⟨od, .call { callee := .value x, args := xs.toArray, argTypes := ts }, ty, pos, after, gd⟩ v ρ M E := fun a w g s => by
  unfold Oper.quietAt
  rw [run_callV h.entry (g.ev hx) (g.evs ha)]
  exact ⟨rfl, h.gr i.out s hv⟩
theorem Ct.atR {P : Program} {f : FuncId} {args : List Value} {val : X → Value} {φ : X → Prop} {E2 : X → Ow} (h : Ct P f args M1 Ow.emp val φ (fun _ => Mo.tt) E2) (hM : ∀ h e, h.off e → M.on h → E e → M1.on (h.join e)) {w : World} (s : St c M E w) :
    Calls P f args.toArray w fun en w' => ∃ r, en = .returned r ∧ ∃ x, r = val x ∧ φ x ∧ St c M (Ow.star (E2 x) E) w' := by
  have s0 := s
  obtain ⟨⟨hp, e, m, ee, d, l, k, h0, hr, er⟩, fr, os, tp, out, sz⟩ := s
  refine (h.calls w (hp.join e) Hp.nil (hM _ _ d m ee) trivial (Hp.nil_off _) (Hp.join_le l k) (fun b o q => by cases q)).mono fun en w' ⟨r, e1, z, e2, e3, e4⟩ => ⟨r, e1, z, e2, e3, ?_⟩
  obtain ⟨⟨h', e', _, ee', d', l', k', hh, hn, en'⟩, fr', os', tp', out', sz'⟩ := e4
  simp only at fr' os' tp' out' sz' hh hn en'
  have old : ∀ b o, hp.join e b = some o → b < w.heap.size := fun b o q => (Array.getElem?_eq_some_iff.1 (Hp.join_le l k b o q)).1
  have keep : ∀ b o, hp.join e b = some o → wh w' b = some o := fun b o q => by
    unfold wh
    rw [fr' b (old b o q) (by simp [Hp.nil])]
    exact Hp.join_le l k b o q
  have new : ∀ b, e' b ≠ none → w.heap.size ≤ b := fun b q => (en' b q).elim (fun x => absurd rfl x) id
  have eoff : e'.off e := fun b => by
    cases he : e b with
    | none => exact .inr rfl
    | some o =>
      left
      cases he' : e' b with
      | none => rfl
      | some o' =>
        have := new b (by rw [he']; simp)
        have h2 : hp.join e b = some o := Hp.le_join_right d b o he
        have := old b o h2
        omega
  refine ⟨⟨hp, e'.join e, m, ⟨e', e, eoff, rfl, ee', ee⟩, fun b => ?_, fun b o q => keep b o (Hp.le_join_left hp e b o q), Hp.join_le k' (fun b o q => keep b o (Hp.le_join_right d b o q)), h0, hr, fun b hb => ?_⟩, fun b hb hd => ?_, os'.trans os, tp'.trans tp, out'.trans out, Nat.le_trans sz sz'⟩
  · cases hb : hp b with
    | none => exact .inl rfl
    | some o =>
      right
      refine Hp.join_none.2 ⟨?_, ?_⟩
      · cases he' : e' b with
        | none => rfl
        | some o' =>
          have := new b (by rw [he']; simp)
          have := old b o (Hp.le_join_left hp e b o hb)
          omega
      · rcases d b with q | q
        · rw [hb] at q; cases q
        · exact q
  · by_cases he : e' b = none
    · exact er b fun q => hb (Hp.join_none.2 ⟨he, q⟩)
    · exact .inr (Nat.le_trans sz (new b he))
  · rw [fr' b (Nat.lt_of_lt_of_le hb sz) (by simp [Hp.nil])]
    exact fr b hb hd
theorem VL.callOR {φ : X → Prop} {val : X → Value} {E2 : X → Ow} {xs : List Operand} {ts : Array TypeId} {f : FuncId} {args : List Value} (h : Ct P f args M1 Ow.emp val φ (fun _ => Mo.tt) E2) (ha : ρ.evs xs = some args) [i : InR M E M1] (hd : d < N)
    (k : ∀ x, φ x → VL P N c ops Q rest ((d, val x) :: ρ) M (Ow.star (E2 x) E)) :
    VL P N c ops Q (⟨some d, .call { callee := .value (.func f), args := xs.toArray, argTypes := ts }, ty, pos, after, none⟩ :: rest) ρ M E := fun a w g s =>
  wpList_plain rfl fun K hK => by
    unfold Oper.wp
    rw [run_call h.entry (g.evs ha)]
    simp only [Oper.upon]
    exact (h.atR i.out s).mono fun en w' ⟨r, e1, z, e2, e3, e4⟩ => by subst e1; subst e2; exact hK _ _ (k z e3 _ _ (g.put hd _) e4)
theorem VL.toBd {Tb : TypeId} (e : TypeId) (b : Nat) [j : UpdB E b [.pointer none, .slice none 0 0] Tb F] (k : VL P N c ops Q rest ρ M (Ow.star (Bd Tb e b []) F)) : VL P N c ops Q rest ρ M E :=
  VL.mono (fun _ x => x) (fun z hz => by
    obtain ⟨x, y, d, q, hx, hy⟩ := j.out z hz
    exact ⟨x, y, d, q, ⟨.pointer none, ⟨none, 0, []⟩, .inl rfl, rfl, fun _ => rfl, x, Hp.nil, fun _ => .inr rfl, (Hp.join_nil x).symm, hx, Nat.le_refl _, by unfold maxLen; simp, .inl ⟨rfl, rfl⟩⟩, hy⟩) k
end
end Go.V
end

section
namespace Go.V
open Go.RowKit
section
variable {P : Program} {N : Nat} {c : Cx} {ops : Array Oper} {Q Q1 : Exit → Act → World → Prop} {rest : List Oper} {o : Oper} {ρ : Env} {M M' M1 M0 : Mo} {E E1 F A : Ow} {v u : Value} {X S T R : Type}
  {d : Nat} {od : Option Nat} {ty : TypeId} {pos : String} {after : Array Edge} {gd : Option (Nat × Bool)} {x y : Operand} {t t' e tb : TypeId} {f : FuncId} {args : List Value}
theorem q_peqn {te : TypeId} {a : Option Addr} (ht : P.underlying t = some (.pointer te)) (e1 : ρ.ev x = some (.pointer a)) : Qt P N c ⟨od, .binOp .eql t x (.const (.pointer none)) t', ty, pos, after, gd⟩ (.bool a.isNone) ρ M E :=
  q_bin e1 rfl (guard_ptr _ _ _) fun w => run_eql_pointer_nil (P := P) w t a (by rw [ht]; simp [Program.pointee, ht])
theorem q_pne {te : TypeId} {j : Nat} {a : Addr} (ht : P.underlying t = some (.pointer te)) (hi : (P.info? te).map (·.size) = some j) (e1 : ρ.ev x = some (.pointer (some a))) (e2 : ρ.ev y = some (.pointer (some a))) : Qt P N c ⟨od, .binOp .neq t x y t', ty, pos, after, gd⟩ (.bool false) ρ M E := by
  cases hj : P.info? te with
  | none => rw [hj] at hi; cases hi
  | some i => exact q_bin e1 e2 (guard_ptr _ _ _) fun w => Lib.run_neq_ptr_same (P := P) w a ht hj
theorem shape_of {b : Nat} {cs : List Value} {T : TypeId} [i : HasB E b cs T] {w : World} (s : St c M E w) : w.shape? b = some (T, cs.length) := by
  obtain ⟨⟨hp, e, m, ee, dd, l, k, _⟩, _⟩ := s
  have h := k _ _ (i.out e ee)
  simp only [wh] at h
  simp [World.shape?, h]
theorem q_tou {te T : TypeId} {n b : Nat} {cs : List Value} (hs : P.underlying t = some (.pointer te)) (hd : P.underlying t' = some .unsafePointer) (ht : (P.info? te).map (·.size) = some (n + 1)) (e1 : ρ.ev x = some (ptr b 0)) [i : HasB E b cs T] (hl : 0 < cs.length) : Qt P N c ⟨od, .convert t t' x, ty, pos, after, gd⟩ (ptr b 0) ρ M E := by
  cases hj : P.info? te with
  | none => rw [hj] at ht; cases ht
  | some j =>
    rw [hj] at ht
    have hz : j.size ≠ 0 := by
      have : j.size = n + 1 := by simpa using ht
      omega
    exact q_cvE e1 fun a w _ s => Lib.run_to_unsafe w ⟨b, 0, none⟩ hs hd hj hz (shape_of (i := i) s) hl
theorem q_fromu {te T : TypeId} {n b : Nat} {cs : List Value} (hs : P.underlying t = some .unsafePointer) (hd : P.underlying t' = some (.pointer te)) (ht : (P.info? te).map (·.size) = some n) (e1 : ρ.ev x = some (ptr b 0)) [i : HasB E b cs T] (hl : liesAt P P.depth T (cs.length / P.cellsOf T) 0 te 1 = true) : Qt P N c ⟨od, .convert t t' x, ty, pos, after, gd⟩ (ptr b 0) ρ M E := by
  cases hj : P.info? te with
  | none => rw [hj] at ht; cases ht
  | some j => exact q_cvE e1 fun a w _ s => Lib.run_from_unsafe w ⟨b, 0, none⟩ hs hd hj (shape_of (i := i) s) hl
theorem q_noEscape {fn : Func} {xs : List Operand} {ts : Array TypeId} (hf : P.funcs[f]? = some fn) (hname : (fn.name == "runtime.NumGoroutine") = false) (hb : fn.body.isNone = true) (hn : Extern.findNext fn = none) (he : Extern.find fn = some Extern.AbiNoEscape.same) (ha : ρ.evs xs = some [v]) :
    Qt P N c ⟨od, .call { callee := .value (.func f), args := xs.toArray, argTypes := ts }, ty, pos, after, gd⟩ v ρ M E := q_ext ha fun w => by
  rw [run_callFunc_extern hf hname hb hn he, Lib.run_noEscape]; rfl
theorem St.ustr {w : World} {h z : Hp} {s : Sv UInt8} {pt it e : TypeId} (hp : P.underlying pt = some (.pointer e)) (hc : P.cellsOf e = 1) (hoff : h.off z) (l : h.le (wh w)) (k : z.le (wh w)) (ho : s.own e z) :
    ∃ w', (Builtin.unsafeString_ #[pt, it] ty #[.pointer s.a, i64 s.l.length]).run P w = .ok (str s.l) w' ∧ St ⟨w, h, fun b => z b ≠ none⟩ Mo.tt Ow.emp w' := by
  by_cases h0 : s.l = []
  · refine ⟨w, ?_, ⟨⟨h, Hp.nil, trivial, trivial, Hp.nil_off _, l, (fun b p hb => by cases hb), Hp.le.refl h, (fun b hb => .inl hb), (fun b hb => absurd rfl hb)⟩, fun b _ _ => rfl, rfl, rfl, rfl, Nat.le_refl _⟩⟩
    rw [h0]
    exact Lib.run_unsafeString_none w pt it ty s.a
  · have ho' := ho
    obtain ⟨hlc, hcm, ⟨hl, _⟩ | ⟨g, cur, ha, hg, hcs, ht⟩⟩ := ho
    · exact absurd hl h0
    · have hwg : w.heap[g]? = some (.cells cur e (0, 0)) := k _ _ hg
      have hd : Dat.sz UInt8 = 1 := rfl
      rw [hd, Nat.mul_one] at hcs
      have hcell : ∀ j x, s.l[j]? = some x → w.cell? ((⟨g, 0, none⟩ : Addr).add j) = some (.int .u8 x.toNat) := fun j x hx => by
        have := Sv.own_get ho' hx 0 (.int .u8 x.toNat) rfl
        have hb : s.b = g := by simp [Sv.b, ha]
        have ho2 : s.o = 0 := by simp [Sv.o, ha]
        rw [hb, ho2, hd] at this
        rw [add_none]
        exact cell_of_le k (by simpa using this)
      have hr := Lib.run_unsafeString_row (P := P) w pt it ty e hp hc g cur.size (by simp [World.shape?, hwg]) s.l h0 (by omega) (by unfold maxLen at hcm; omega) hcell
      rw [ha]
      refine ⟨w.freeze ⟨g, 0, none⟩ s.l.length, hr, ?_⟩
      have hfz : (w.freeze ⟨g, 0, none⟩ s.l.length).heap.size = w.heap.size ∧ (∀ i, i ≠ g → (w.freeze ⟨g, 0, none⟩ s.l.length).heap[i]? = w.heap[i]?) ∧ (w.freeze ⟨g, 0, none⟩ s.l.length).os = w.os ∧ (w.freeze ⟨g, 0, none⟩ s.l.length).tape = w.tape ∧ (w.freeze ⟨g, 0, none⟩ s.l.length).output = w.output := by
        unfold World.freeze
        split
        · exact ⟨rfl, fun _ _ => rfl, rfl, rfl, rfl⟩
        · refine ⟨by simp, fun i hi => ?_, rfl, rfl, rfl⟩
          simp only [Array.getElem?_modify]
          rw [if_neg (by simpa using Ne.symm hi)]
      obtain ⟨f1, f2, f3, f4, f5⟩ := hfz
      have hne : ∀ i p, h i = some p → i ≠ g := fun i p hi q => by
        subst q
        rcases hoff i with q | q
        · rw [q] at hi; cases hi
        · rw [q] at hg; cases hg
      refine ⟨⟨h, Hp.nil, trivial, trivial, Hp.nil_off _, fun i p hi => ?_, (fun b p hb => by cases hb), Hp.le.refl h, (fun b hb => .inl hb), (fun b hb => absurd rfl hb)⟩, fun i hi hn => ?_, f3, f4, f5, by rw [f1]; exact Nat.le_refl _⟩
      · unfold wh
        rw [f2 i (hne i p hi)]
        exact l i p hi
      · exact f2 i fun q => hn (by show z i ≠ none; rw [q, hg]; simp)
end
end Go.V
end

section
namespace Go.V
open Go.RowKit
section
variable {P : Program} {N : Nat} {c : Cx} {ops : Array Oper} {Q Q1 : Exit → Act → World → Prop} {rest : List Oper} {o : Oper} {ρ : Env} {M M' M1 M0 : Mo} {E E1 F A : Ow} {v u : Value} {X S T R : Type}
  {d : Nat} {od : Option Nat} {ty : TypeId} {pos : String} {after : Array Edge} {gd : Option (Nat × Bool)} {x y : Operand} {t t' e tb : TypeId} {f : FuncId} {args : List Value} {k k' : IntKind} {m n : Int}
theorem q_rem (e1 : ρ.ev x = some (.int k m)) (e2 : ρ.ev y = some (.int k n)) (h : 0 ≤ m ∧ n ≠ 0) : Qt P N c ⟨od, .binOp .rem t x y t', ty, pos, after, gd⟩ (.int k (m % n)) ρ M E := q_bin e1 e2 (guard_int _ _ _) fun w => by
  have e : m.tmod n = m % n := Int.tmod_eq_emod_of_nonneg h.1
  simp [binOp, Op.intDiv, go_sem, h.2, e]
theorem q_quo (e1 : ρ.ev x = some (.int k m)) (e2 : ρ.ev y = some (.int k n)) (h : 0 ≤ m ∧ n ≠ 0) (hk : k.wrap (m / n) = m / n) : Qt P N c ⟨od, .binOp .quo t x y t', ty, pos, after, gd⟩ (.int k (m / n)) ρ M E := q_bin e1 e2 (guard_int _ _ _) fun w => by
  have e : m.tdiv n = m / n := Int.tdiv_eq_ediv_of_nonneg h.1
  simp [binOp, Op.intDiv, go_sem, h.2, e, hk]
theorem run_b2s {w : World} {s : Sv UInt8} (hs : P.underlying t = some (.slice e)) (he : P.underlying e = some (.int .u8)) (hd : P.underlying t' = some .string) (ha : s.l ≠ [] → s.a = some ⟨s.b, s.o, none⟩) (hc : ∀ i x, s.l[i]? = some x → w.cell? ⟨s.b, s.o + i, none⟩ = some (.int .u8 x.toNat)) :
    (convert t t' s.val).run P w = .ok (str s.l) w := by
  unfold Sv.val
  rw [run_convert_bytes_string w t t' e s.a s.l.length s.c hs he hd]
  by_cases hl : s.l = []
  · rw [hl]
    cases hq : s.a with
    | none => simp [Conv.bytesToString]; rfl
    | some a => rw [run_bytesToString w a _ s.c [] (by simp [loadCells, loadCellsFrom, go_sem])]; rfl
  · rw [ha hl]
    have hld : (loadCells ⟨s.b, s.o, none⟩ s.l.length).run P w = .ok ((s.l.map fun b => (b.toNat : Int)).map (Value.int .u8)).toArray w := by
      have := run_loadCells_list (P := P) w ⟨s.b, s.o, none⟩ ((s.l.map fun b => (b.toNat : Int)).map (Value.int .u8)) (fun j v hj => by
        rw [add_none]
        rw [List.getElem?_map, List.getElem?_map] at hj
        cases hz : s.l[j]? with
        | none => rw [hz] at hj; cases hj
        | some z => rw [hz] at hj; cases hj; exact hc j z hz)
      simpa using this
    rw [run_bytesToString w _ _ s.c _ hld, foldl_push_byteCells]
    congr 2
    exact ByteArray.ext (by simp)
theorem cell_of_st {s : Sv UInt8} (hs : ∀ h e, h.off e → M.on h → E e → s.ok.on (h.join e)) {w : World} (st : St c M E w) : (s.l ≠ [] → s.a = some ⟨s.b, s.o, none⟩) ∧ ∀ (i : Nat) x, s.l[i]? = some x → w.cell? ⟨s.b, s.o + i, none⟩ = some (.int .u8 x.toNat) := by
  obtain ⟨⟨hp, ee, m, eE, dd, l, k, _⟩, _⟩ := st
  have q := hs hp ee dd m eE
  refine ⟨q.2.2.1, fun i x hx => ?_⟩
  have := Sv.ok_get q hx 0 (.int .u8 x.toNat) rfl
  have hsz : Dat.sz UInt8 = 1 := rfl
  rw [hsz] at this
  exact cell_of_le (Hp.join_le l k) (by simpa using this)
theorem q_b2s {s : Sv UInt8} (hs : P.underlying t = some (.slice e)) (he : P.underlying e = some (.int .u8)) (hd : P.underlying t' = some .string) (e1 : ρ.ev x = some s.val) [i : InR M E s.ok] : Qt P N c ⟨od, .convert t t' x, ty, pos, after, gd⟩ (str s.l) ρ M E :=
  q_cvE e1 fun a w _ st => by
    obtain ⟨h1, h2⟩ := cell_of_st i.out st
    exact run_b2s hs he hd h1 h2
end
end Go.V
end

section
namespace Go.S
open Go
def sHr (k : IntKind) (x y : Int) : Int := x.fdiv (2 ^ min y.toNat k.bits)
end Go.S
namespace Go.V
open Go.RowKit Go.S
section
variable {P : Program} {N : Nat} {c : Cx} {ops : Array Oper} {Q Q1 : Exit → Act → World → Prop} {rest : List Oper} {o : Oper} {ρ : Env} {M M' M1 M0 : Mo} {E E1 F A : Ow} {v u : Value} {X S T R : Type}
  {d : Nat} {od : Option Nat} {ty : TypeId} {pos : String} {after : Array Edge} {gd : Option (Nat × Bool)} {x y : Operand} {t t' e tb : TypeId} {f : FuncId} {args : List Value} {k k' : IntKind} {m n : Int}
theorem q_shr (e1 : ρ.ev x = some (.int k m)) (e2 : ρ.ev y = some (.int k' n)) (h : 0 ≤ n) : Qt P N c ⟨od, .binOp .shr t x y t', ty, pos, after, gd⟩ (.int k (sHr k m n)) ρ M E := q_bin e1 e2 (guard_int _ _ _) fun w => by
  simp [binOp, Op.shift, go_sem, sHr, Int.not_lt.2 h]
theorem q_convW {k1 k2 : IntKind} (h1 : P.underlying t = some (.int k1)) (h2 : P.underlying t' = some (.int k2)) (e1 : ρ.ev x = some (.int k1 n)) : Qt P N c ⟨od, .convert t t' x, ty, pos, after, gd⟩ (.int k2 (k2.wrap n)) ρ M E := Qt.of_run fun a w g _ => by
  simp only [execOp, g.ev e1]
  simp [convert, run_underlying h1, run_underlying h2, Conv.intToInt, go_sem]
end
end Go.V
end

section
namespace Go.V
open Go.RowKit Go.S
section
variable {P : Program} {N : Nat} {c : Cx} {ops : Array Oper} {Q Q1 : Exit → Act → World → Prop} {rest : List Oper} {o : Oper} {ρ : Env} {M M' M1 M0 : Mo} {E E1 F A : Ow} {v u : Value} {X S T R : Type}
  {d : Nat} {od : Option Nat} {ty : TypeId} {pos : String} {after : Array Edge} {gd : Option (Nat × Bool)} {x y : Operand} {t t' e tb : TypeId} {f : FuncId} {args : List Value} {k k' : IntKind} {m n : Int}
theorem q_steql {xs ys : Array Value} {b : Bool} (hg : P.eqGuardType P.depth t = false) (h : ∀ w, (Op.equalIn 10000 t (.agg xs) (.agg ys)).run P w = .ok b w) (e1 : ρ.ev x = some (.agg xs)) (e2 : ρ.ev y = some (.agg ys)) : Qt P N c ⟨od, .binOp .eql t x y t', ty, pos, after, gd⟩ (.bool b) ρ M E := q_bin e1 e2 (fun w => run_eqGuard_agg w .eql t x y xs ys hg) fun w => by
  rw [run_eql_struct, h w]; rfl
theorem q_stneq {xs ys : Array Value} {b : Bool} (hg : P.eqGuardType P.depth t = false) (h : ∀ w, (Op.equalIn 10000 t (.agg xs) (.agg ys)).run P w = .ok b w) (e1 : ρ.ev x = some (.agg xs)) (e2 : ρ.ev y = some (.agg ys)) : Qt P N c ⟨od, .binOp .neq t x y t', ty, pos, after, gd⟩ (.bool (!b)) ρ M E := q_bin e1 e2 (fun w => run_eqGuard_agg w .neq t x y xs ys hg) fun w => by
  rw [run_neq_struct, h w]; rfl
theorem q_slss {s s' : List UInt8} (e1 : ρ.ev x = some (str s)) (e2 : ρ.ev y = some (str s')) : Qt P N c ⟨od, .binOp .lss t x y t', ty, pos, after, gd⟩ (.bool (Op.bytesLess s s')) ρ M E := q_bin e1 e2 (guard_str _ _ _) fun w => by
  simp [binOp, Op.stringOp, go_sem]
theorem q_sgeq {s s' : List UInt8} (e1 : ρ.ev x = some (str s)) (e2 : ρ.ev y = some (str s')) : Qt P N c ⟨od, .binOp .geq t x y t', ty, pos, after, gd⟩ (.bool (!Op.bytesLess s s')) ρ M E := q_bin e1 e2 (guard_str _ _ _) fun w => by
  simp [binOp, Op.stringOp, go_sem]
theorem q_sgtr {s s' : List UInt8} (e1 : ρ.ev x = some (str s)) (e2 : ρ.ev y = some (str s')) : Qt P N c ⟨od, .binOp .gtr t x y t', ty, pos, after, gd⟩ (.bool (!(Op.bytesLess s s' || decide (s = s')))) ρ M E := q_bin e1 e2 (guard_str _ _ _) fun w => by
  have h : (s == s') = decide (s = s') := beq_dec _ _
  simp [binOp, Op.stringOp, go_sem, h]
end
end Go.V
end

section
namespace Go.S
open Go
noncomputable def ixB (s : List UInt8) (c : Int) : Int := Lib.indexByte s c.toNat.toUInt8
noncomputable def cntB (s : List UInt8) (c : Int) : Int := (Lib.countByte s c.toNat.toUInt8 : Nat)
end Go.S
namespace Go.V
open Go.RowKit Go.S
section
variable {P : Program} {N : Nat} {c : Cx} {ops : Array Oper} {Q Q1 : Exit → Act → World → Prop} {rest : List Oper} {o : Oper} {ρ : Env} {M M' M1 M0 : Mo} {E E1 F A : Ow} {v u : Value} {X S T R : Type}
  {d : Nat} {od : Option Nat} {ty : TypeId} {pos : String} {after : Array Edge} {gd : Option (Nat × Bool)} {x y : Operand} {t t' e tb : TypeId} {f : FuncId} {args : List Value} {k k' : IntKind} {m n : Int}
theorem VL.s2b {s : Str} {u : TypeDesc} (hs : P.underlying t = some u) (hu : P.underlying t' = some (.slice e)) (he : P.underlying e = some (.int .u8)) (e1 : ρ.ev x = some (str s)) (hlen : s.length ≤ 4294967296) (hd : d < N)
    (kk : ∀ q : Sv UInt8, q.l = s → VL P N c ops Q rest ((d, q.val) :: ρ) (q.ok.and M) E) : VL P N c ops Q (⟨some d, .convert t t' x, ty, pos, after, none⟩ :: rest) ρ M E := by
  refine VL.newM (S := Sv UInt8) (val := Sv.val) (φ := fun q => q.l = s) (M2 := fun q => q.ok) (fun a w h g m l => ?_) hd kk
  have hr := Lib.run_convert_string_bytes (P := P) w t t' e ⟨⟨s⟩⟩ hs hu he
  have hsz : (⟨⟨s⟩⟩ : ByteArray).size = s.length := rfl
  have hmax : s.length ≤ maxLen := by unfold maxLen; omega
  rw [hsz] at hr
  refine ⟨⟨some ⟨w.heap.size, 0, none⟩, grownCap w s.length 0 e, s⟩, Lib.bytesWorld w e ⟨⟨s⟩⟩, .cells (Lib.bytesCells w e ⟨⟨s⟩⟩) e ((Lib.bytesCells w e ⟨⟨s⟩⟩).size, (Lib.bytesCells w e ⟨⟨s⟩⟩).size + 1), ?_, rfl, ⟨?_, ?_, ?_, by rw [Lib.bytesWorld_size]; omega, fun j hj => Lib.bytesWorld_at_old w e _ j hj⟩, Lib.bytesWorld_at_new w e _, ?_⟩
  · simp only [execOp, g.ev e1, Sem.run_bind, hr, Result.andThen_ok, Sem.run_pure]; rfl
  · simp [Lib.bytesWorld, World.freeze, World.alloc, World.drew, -World.alloc_eq, -World.drew_eq]
  · simp [Lib.bytesWorld, World.freeze, World.alloc, World.drew, -World.alloc_eq, -World.drew_eq]
  · simp [Lib.bytesWorld, World.freeze, World.alloc, World.drew, -World.alloc_eq, -World.drew_eq]
  · have hblk : (h.join (Hp.one w.heap.size (.cells (Lib.bytesCells w e ⟨⟨s⟩⟩) e ((Lib.bytesCells w e ⟨⟨s⟩⟩).size, (Lib.bytesCells w e ⟨⟨s⟩⟩).size + 1)))) w.heap.size = some (.cells (Lib.bytesCells w e ⟨⟨s⟩⟩) e ((Lib.bytesCells w e ⟨⟨s⟩⟩).size, (Lib.bytesCells w e ⟨⟨s⟩⟩).size + 1)) := by
      have hh : h w.heap.size = none := by
        cases hb : h w.heap.size with
        | none => rfl
        | some p => have := (Array.getElem?_eq_some_iff.1 (l _ p hb)).1; omega
      unfold Hp.join
      rw [hh, Hp.one_self]
    refine ⟨grownCap_ge _ _ _ _, grownCap_le_maxLen _ _ _ _ hmax, fun _ => by simp [Sv.b, Sv.o], fun i z hz => ?_, fun _ _ => trivial⟩
    intro j v hj
    have hd1 : Dat.sz UInt8 = 1 := rfl
    have hj0 : j = 0 := by
      cases j with
      | zero => rfl
      | succ j => simp [Dat.enc] at hj
    subst hj0
    have hv : v = .int .u8 z.toNat := by simp [Dat.enc] at hj; exact hj.symm
    subst hv
    have hi := (List.getElem?_eq_some_iff.1 hz).1
    simp only at hz hi
    have hzz := (List.getElem?_eq_some_iff.1 hz).2
    have hcell : (Lib.bytesCells w e ⟨⟨s⟩⟩)[i]? = some (.int .u8 z.toNat) := by
      simp only [Lib.bytesCells, Array.getElem?_append]
      simp [hi, hzz]
    show (h.join _).cell w.heap.size (0 + i * 1 + 0) = _
    unfold Hp.cell
    rw [hblk]
    simpa using hcell
theorem q_extern {fn : Func} {ex : Array Value → Sem Value} {xs : List Operand} {vs : List Value} {ts : Array TypeId} (hf : P.funcs[f]? = some fn) (hname : (fn.name == "runtime.NumGoroutine") = false) (hb : fn.body.isNone = true) (hn : Extern.findNext fn = none) (he : Extern.find fn = some ex) (ha : ρ.evs xs = some vs) (h : ∀ w : World, (ex vs.toArray).run P w = .ok v w) :
    Qt P N c ⟨od, .call { callee := .value (.func f), args := xs.toArray, argTypes := ts }, ty, pos, after, gd⟩ v ρ M E := q_ext ha fun w => by
  rw [run_callFunc_extern hf hname hb hn he, h w]; rfl
theorem x_ixS {P : Program} (s : Str) (c : Int) (w : World) : (Extern.BytealgIndexByte.indexByte #[str s, .int .u8 c]).run P w = .ok (i64 (ixB s c)) w := Lib.run_indexByteString ⟨⟨s⟩⟩ c w
theorem x_cntS {P : Program} (s : Str) (c : Int) (w : World) : (Extern.BytealgCount.count #[str s, .int .u8 c]).run P w = .ok (i64 (cntB s c)) w := Lib.run_countString ⟨⟨s⟩⟩ c w
theorem q_mkfn {g : FuncId} {xs : List Operand} {vs : List Value} (ha : ρ.evs xs = some vs) : Qt P N c ⟨od, .makeFunc (.func g) #[] xs.toArray, ty, pos, after, gd⟩ (.func (.func g) #[] vs.toArray) ρ M E := Qt.of_run fun a w h _ => by
  have e := h.evs ha
  subst e
  simp [execOp, Instr.makeFunc]
theorem Er.one [ErNo] (z : Er) : z.val.oneCell' = true := by cases z <;> rfl
theorem wr_i32 (u : UInt8) : IntKind.i32.wrap (u.toNat : Int) = (u.toNat : Int) := IntWalk.i32_in _ (by have := u.toNat_lt; omega)
theorem q_min {m n : Int} {xs : List Operand} {ts : Array TypeId} (h : ρ.evs xs = some [i64 m, i64 n]) : Qt P N c ⟨od, .call { callee := .builtin .min, args := xs.toArray, argTypes := ts }, ty, pos, after, gd⟩ (i64 (min m n)) ρ M E := Qt.of_run fun a w g _ => by
  simp only [execOp, resolve, List.map_toArray, g.evs h]
  have hr : (Builtin.min_ ts ty #[i64 m, i64 n]).run P w = .ok (i64 (min m n)) w := by
    simp [Builtin.min_, Builtin.min2, go_sem]
    rw [Int.min_def]
    split <;> split <;> first | rfl | (congr 1; omega) | omega | (simp; omega)
  simp [go_sem, invoke, builtin, hr]
instance (priority := 700) UpdB.inn (A F G : Ow) (b : Nat) (cs : List Value) (T : TypeId) [i : UpdB A b cs T G] : UpdB (Ow.star A F) b cs T (Ow.star G F) := ⟨Foc.inn i.out⟩
theorem VC.reB {p : Code} (b : Nat) {cs cs' : List Value} {T : TypeId} [j : UpdB E b cs T F] (h : cs = cs') (k : VC P N c Q p ρ M (Ow.star (Blk b cs' T) F)) : VC P N c Q p ρ M E := by
  subst h
  exact fun a w g st => k a w g (st.mono (fun _ x => x) (fun z hz => j.out z hz))
end
end Go.V
end

section
namespace Go.V
open Go.RowKit Go.S
section
variable {P : Program} {N : Nat} {c : Cx} {ops : Array Oper} {Q Q1 : Exit → Act → World → Prop} {rest : List Oper} {o : Oper} {ρ : Env} {M M' M1 M0 : Mo} {E E1 F A : Ow} {v u : Value} {X S T R : Type}
  {d : Nat} {od : Option Nat} {ty : TypeId} {pos : String} {after : Array Edge} {gd : Option (Nat × Bool)} {x y : Operand} {t t' e tb : TypeId} {f : FuncId} {args : List Value} {k k' : IntKind} {m n : Int}
theorem VL.litO {α : Type} [Dat α] {n : Nat} {parts : Array (Nat × Operand)} {xs : List Operand} {vs : List Value} (zs : List α) (hu : P.underlying t = some (.slice e)) (hz : ((P.info? e).map fun i => (i.size, i.zero.isSome)) = some (Dat.sz α, true)) (hpos : 0 < Dat.sz α)
    (hp : parts = ((xs.zipIdx 0).map fun x => (x.2, x.1)).toArray) (hv : ρ.evs xs = some vs) (hc : vs.map (fun v => v.cells.toList) = zs.map Dat.enc) (hn : zs.length = n) (hs : n * Dat.sz α ≤ 16777216) (hd : d < N)
    (k : ∀ s : Sv α, s.l = zs → VL P N c ops Q rest ((d, s.val) :: ρ) M (Ow.star (s.own e) E)) (h0 : 0 < n) : VL P N c ops Q (⟨some d, .buildSlice t n parts, ty, pos, after, none⟩ :: rest) ρ M E := by
  cases hi : P.info? e with
  | none => rw [hi] at hz; cases hz
  | some ie =>
    rw [hi] at hz
    obtain ⟨hsz, hzz⟩ : ie.size = Dat.sz α ∧ ie.zero.isSome = true := by simpa using hz
    obtain ⟨z, hz1⟩ := Option.isSome_iff_exists.1 hzz
    refine VL.newO (S := Sv α) (val := Sv.val) (φ := fun s => s.l = zs) (A := fun s => s.own e) (fun a w g => ?_) hd k
    have hlen : vs.length = n := by rw [← hn]; simpa using congrArg List.length hc
    have hcs : ∀ v ∈ vs, v.cells.size = ie.size := fun v hv => by
      have : v.cells.toList ∈ zs.map Dat.enc := by rw [← hc]; exact List.mem_map.2 ⟨v, hv, rfl⟩
      obtain ⟨q, _, hq⟩ := List.mem_map.1 this
      rw [← Array.length_toList, ← hq, Dat.len, hsz]
    have hfill := Great.fill_whole (s := ie.size) (by omega) vs ((Array.range (n * ie.size)).map (z.cells[· % z.cells.size]!)) hcs (by simp [hlen])
    have hflat : (vs.flatMap fun v => v.cells.toList) = zs.flatMap Dat.enc := by rw [List.flatMap_def, hc, ← List.flatMap_def]
    rw [hflat] at hfill
    have hr := run_buildSlice (P := P) w t e n (parts.map fun (i, x) => (i, a.eval x)) _ ie z hu hi hz1 (by rw [hsz]; omega) (by rw [hsz]; exact Nat.pos_iff_ne_zero.1 (Nat.mul_pos h0 hpos)) (by rw [map_ops g hv parts hp]; exact hfill)
    have hle : n ≤ n * Dat.sz α := Nat.le_mul_of_pos_right _ hpos
    refine ⟨⟨some ⟨w.heap.size, 0, none⟩, n, zs⟩, _, .cells (zs.flatMap Dat.enc).toArray e, ?_, rfl, Gr.alloc w _, heap_alloc_new w _, ?_⟩
    · simp only [execOp, Sem.run_bind, hr, Result.andThen_ok, Sem.run_pure, Sv.val, hn]
    · refine ⟨by simp [hn], by unfold maxLen; simp only; omega, .inr ⟨_, _, rfl, Hp.one_self _ _, ?_, ?_⟩⟩
      · simp only [List.size_toArray]; rw [enc_len, hn]
      · simp only
        rw [List.take_of_length_le (by rw [enc_len]; exact Nat.le_refl _)]
end
end Go.V
end

section
namespace Go.S
open Go
end Go.S
end

section
namespace Go.V
open Go.RowKit Go.S
def GBlk (g : Nat) (cs : Array Value) : Mo := ⟨fun h => ∃ t f, h g = some (.cells cs t f), fun k ⟨t, f, e⟩ => ⟨t, f, k _ _ e⟩⟩
theorem GBlk.of_var {P : Program} {g : Nat} {cs : Array Value} {w : World} {name : String} (hg : P.globalNamed name = some g) (h : w.var? P name = some cs) : (GBlk g cs).on (wh w) := by
  unfold World.var? at h
  rw [hg] at h
  simp only [Option.bind_some] at h
  split at h
  · next c t f hc =>
    cases h
    exact ⟨t, f, hc⟩
  · cases h
end Go.V
end

section
namespace Go.S
def endNo : Err → Option Int
  | .nil => none
  | .no n => some n
  | .fault _ _ e => endNo e
end Go.S
namespace Go.V
open Go.RowKit Go.S
section
variable {P : Program} {N : Nat} {c : Cx} {ops : Array Oper} {Q Q1 : Exit → Act → World → Prop} {rest : List Oper} {o : Oper} {ρ : Env} {M M' M1 M0 : Mo} {E E1 F A : Ow} {v u : Value} {X S T R : Type}
  {d : Nat} {od : Option Nat} {ty : TypeId} {pos : String} {after : Array Edge} {gd : Option (Nat × Bool)} {x y : Operand} {t t' e tb : TypeId} {f : FuncId} {args : List Value} {k k' : IntKind} {m n : Int}
def Er.dep : Er → Nat
  | .fault _ _ _ e => e.dep + 1
  | _ => 0
structure Meth (P : Program) (v : Value) (name : String) (f : FuncId) (rv : Value) : Prop where
  run : ∀ w : World, (callMethod v name #[]).run P w = (callFunc f #[rv]).run P w
theorem Meth.of {tv : TypeId} {name : String} {rv : Value} (h : ∀ w, (Go.method (P.types.size + Made.depth) tv v name).run P w = .ok (f, rv) w) : Meth P (.iface tv v) name f rv := ⟨fun w => by
  simp only [callMethod, Sem.run_bind, Go.program, Sem.run, go_sem] at h ⊢
  simp [h]⟩
theorem q_inv {φ : X → Prop} {val : X → Value} {M2 : X → Mo} {E2 : X → Ow} {name : String} {rv r : Value} (hx : ρ.ev x = some u) (hm : Meth P u name f rv) (h : Ct P f [rv] M1 Ow.emp val φ M2 E2) [i : InR M E M1] (hv : ∀ y, φ y → val y = r) :
    Qt P N c ⟨od, .call { callee := .invoke x name, args := [].toArray, argTypes := #[] }, ty, pos, after, gd⟩ r ρ M E := fun a w g s => by
  unfold Oper.quietAt
  have he : (execOp a.eval ⟨od, .call { callee := .invoke x name, args := [].toArray, argTypes := #[] }, ty, pos, after, gd⟩).run P w = .ok (.enter f #[rv]) w := by
    simp only [execOp, resolve, g.ev hx, invoke]
    simp [hm.run, h.entry]
  rw [he]
  exact ⟨rfl, h.gr i.out s hv⟩
theorem q_invX {fn : Func} {ex : Array Value → Sem Value} {name : String} {rv r : Value} (hx : ρ.ev x = some u) (hm : Meth P u name f rv) (hf : P.funcs[f]? = some fn) (hname : (fn.name == "runtime.NumGoroutine") = false) (hb : fn.body.isNone = true) (hn : Extern.findNext fn = none) (he : Extern.find fn = some ex) (h : ∀ w : World, (ex #[rv]).run P w = .ok r w) :
    Qt P N c ⟨od, .call { callee := .invoke x name, args := [].toArray, argTypes := #[] }, ty, pos, after, gd⟩ r ρ M E := Qt.of_run fun a w g s => by
  have hc := run_callFunc_extern hf hname hb hn he (args := #[rv]) (w := w)
  simp only [execOp, resolve, g.ev hx, invoke]
  simp [hm.run, hc, h]
theorem q_eqnl {T : TypeId} {ms : Array (String × TypeId)} {u : Value} (hi : P.underlying t = some (.interface ms)) (e1 : ρ.ev x = some .nilIface) (e2 : ρ.ev y = some (.iface T u)) :
    Qt P N c ⟨od, .binOp .eql t x y t', ty, pos, after, gd⟩ (.bool false) ρ M E := q_bin e1 e2 (fun w => by unfold eqGuard; simp [go_sem]) fun w => run_eql_iface_nil_left w T u hi
theorem q_ta {xT : TypeId} (e1 : ρ.ev x = some v) (h : ∀ w : World, (Instr.typeAssert v xT t true).run P w = .ok u w) : Qt P N c ⟨od, .typeAssert x xT t true, ty, pos, after, gd⟩ u ρ M E := Qt.of_run fun a w g _ => by
  simp only [execOp, g.ev e1, Sem.run_bind, h w, Result.andThen_ok, Sem.run_pure]
theorem guard_ifs (op : BinOp) (T1 T2 : TypeId) (u v : Value) (w : World) : (eqGuard op t x y (.iface T1 u) (.iface T2 v)).run P w = .ok () w := by
  unfold eqGuard
  cases op <;> simp [go_sem] <;> rfl
theorem run_eqinno (w : World) (d : Nat) (a b : Int) {ti tn : TypeId} {ms : Array (String × TypeId)} {i : TypeInfo} (hi : P.underlying ti = some (.interface ms)) (hn : P.underlying tn = some (.int .i64)) (h1 : P.info? tn = some i) (h2 : i.comparable = true) :
    (Op.equalIn (d + 2) ti (.iface tn (i64 a)) (.iface tn (i64 b))).run P w = .ok (decide (a = b)) w := by
  have e : (a == b) = decide (a = b) := by by_cases q : a = b <;> simp [q]
  simp [Op.equalIn, run_underlying hi, run_underlying hn, typeInfo, h1, h2, e]
theorem run_eqno (w : World) (a b : Int) {ti tn : TypeId} {ms : Array (String × TypeId)} (hi : P.underlying ti = some (.interface ms)) (hn : P.underlying tn = some (.int .i64)) (hc : (P.info? tn).map (·.comparable) = some true) :
    (binOp .eql ti (.iface tn (i64 a)) (.iface tn (i64 b))).run P w = .ok (.bool (decide (a = b))) w := by
  obtain ⟨i, h1, h2⟩ := Option.map_eq_some_iff.1 hc
  simp only [binOp]
  simp [Op.equal, Op.maxDepth, run_eqinno w 9998 a b hi hn h1 h2]
theorem q_eqno {tn : TypeId} {ms : Array (String × TypeId)} {a b : Int} (hi : P.underlying t = some (.interface ms)) (hn : P.underlying tn = some (.int .i64)) (hc : (P.info? tn).map (·.comparable) = some true) (e1 : ρ.ev x = some (.iface tn (i64 a))) (e2 : ρ.ev y = some (.iface tn (i64 b))) :
    Qt P N c ⟨od, .binOp .eql t x y t', ty, pos, after, gd⟩ (.bool (decide (a = b))) ρ M E := q_bin e1 e2 (guard_ifs _ _ _ _ _) fun w => run_eqno w a b hi hn hc
theorem q_eqdt {t1 t2 : TypeId} {ms : Array (String × TypeId)} {a b : Value} (hi : P.underlying t = some (.interface ms)) (hne : t1 ≠ t2) (e1 : ρ.ev x = some (.iface t1 a)) (e2 : ρ.ev y = some (.iface t2 b)) :
    Qt P N c ⟨od, .binOp .eql t x y t', ty, pos, after, gd⟩ (.bool false) ρ M E := q_bin e1 e2 (guard_ifs _ _ _ _ _) fun w => run_eql_iface_types t1 t2 a b hi hne w
def Says (P : Program) (v : Value) (name : String) (M1 : Mo) (r : Value) : Prop := ∃ f rv, Meth P v name f rv ∧ Ct P f [rv] M1 Ow.emp (X := Unit) (fun _ => r) (fun _ => True) (fun _ => Mo.tt) (fun _ => Ow.emp)
theorem q_say {name : String} {r : Value} (hx : ρ.ev x = some u) (h : Says P u name M1 r) [i : InR M E M1] : Qt P N c ⟨od, .call { callee := .invoke x name, args := [].toArray, argTypes := #[] }, ty, pos, after, gd⟩ r ρ M E := by
  obtain ⟨f, rv, h1, h2⟩ := h
  exact q_inv hx h1 h2 (fun _ _ => rfl)
theorem St.turned {w w1 w' : World} {h z : Hp} {t : Nat} {T : TypeId} {u v : Value} (hb : w.heap[t]? = some (.cells #[u] T (0, 0))) (hz : z t = some (.cells #[u] T (0, 0))) (hoff : h.off z) (l : h.le (wh w)) (g : Gr w w1) (e : w' = w1.setCell ⟨t, 0, none⟩ v) : St ⟨w, h, fun i => z i ≠ none⟩ Mo.tt (Blk t [v] T) w' := by
  subst e
  have hbn : h t = none := (hoff t).resolve_right (by rw [hz]; simp)
  have htl := (Array.getElem?_eq_some_iff.1 hb).1
  have h1 : w1.heap[t]? = some (.cells #[u] T (0, 0)) := by rw [g.block t htl]; exact hb
  have hnew := one_setCell (u := v) h1
  have hold : ∀ i, i ≠ t → (w1.setCell ⟨t, 0, none⟩ v).heap[i]? = w1.heap[i]? := fun i hi => Below.heap_setCell w1 ⟨t, 0, none⟩ v i hi
  have hB : Below 0 w1 (w1.setCell ⟨t, 0, none⟩ v) := (Below.refl 0 w1).setCell (Nat.zero_le _) v
  refine ⟨⟨h, Hp.one t (.cells #[v] T (0, 0)), trivial, Hp.one_self _ _, fun i => ?_, fun i p hp => ?_, fun i p hp => ?_, Hp.le.refl h, fun i hi => .inl hi, fun i hi => .inl ?_⟩, fun i hi hd => ?_, hB.os.trans g.os, hB.tape.trans g.tape, hB.output.trans g.output, Nat.le_trans g.size hB.size⟩
  · by_cases hib : i = t
    · subst hib; exact .inl hbn
    · right; unfold Hp.one; rw [if_neg hib]
  · have hib : i ≠ t := fun q => by subst q; rw [hbn] at hp; cases hp
    unfold wh
    rw [hold i hib]
    have := l i p hp
    unfold wh at this
    rw [g.block i (Array.getElem?_eq_some_iff.1 this).1]
    exact this
  · have := Hp.one_ne (by rw [hp]; simp)
    subst this
    rw [Hp.one_self] at hp
    cases hp
    exact hnew
  · have := Hp.one_ne hi
    subst this
    show z i ≠ none
    rw [hz]; simp
  · have hit : i ≠ t := by
      rintro rfl
      exact hd (show z i ≠ none by rw [hz]; simp)
    rw [hold i hit]
    exact g.block i hi
end
end Go.V
end

section
set_option linter.unusedVariables false
namespace Go.V
open Go.RowKit Go.ChangeShapes Go.WideShapes
theorem Ct.law {P : Program} {f : FuncId} {args : List Value} {M : Mo} {v : Value} {φ : Unit → Prop} {M2 : Unit → Mo} {E2 : Unit → Ow} (h : Ct P f args M Ow.emp (fun _ => v) φ M2 E2) {w : World} (hM : M.on (wh w)) :
    Calls P f args.toArray w fun en w' => en = .returned v ∧ Gr w w' :=
  (h.calls w (wh w) Hp.nil hM trivial (Hp.nil_off _) (fun _ _ e => e) (fun b o q => by cases q)).mono fun en w' ⟨r, e1, z, e2, e3, e4⟩ => ⟨by rw [e1, e2], e4.os, e4.tape, e4.output, e4.size, fun b hb => e4.frame b hb (by simp [Hp.nil])⟩
section
variable {H : Type} {enc : TypeId × Value → H} {P : Program} {W W' : World}
theorem trodAll_stays (hl : laidOutB P = true) {sp' : Nat → Bool} : ∀ {ts : List TypeId} {vs : List Value} {ds : List (DataW H)} {ps : List MemPlace}, ts.all (fun t => P.readableRec t && decide (t < P.types.size)) = true →
    DataW.TrodAll enc P W 0 (fun _ => true) true ts vs ds ps → (∀ p ∈ ps, W.sameAt W' p) → (∀ p ∈ ps, sp' p.block = true) → DataW.TrodAll enc P W' 0 sp' true ts vs ds ps
  | [], [], [], _, _, h, _, _ => h
  | t :: ts, v :: vs, d :: ds, _, ha, ⟨p, q, h1, h2, rfl⟩, hs, hb => by
    simp only [List.all_cons, Bool.and_eq_true, decide_eq_true_eq] at ha
    exact ⟨p, q, WideElems.Trod_stays hl ha.1.1 ha.1.2 h1 (fun x hx => hs x (List.mem_append_left _ hx)) (fun x hx => hb x (List.mem_append_left _ hx)),
      trodAll_stays hl ha.2 h2 (fun x hx => hs x (List.mem_append_right _ hx)) (fun x hx => hb x (List.mem_append_right _ hx)), rfl⟩
  | [], _ :: _, _, _, _, h, _, _ => by simp [DataW.TrodAll] at h
  | [], [], _ :: _, _, _, h, _, _ => by simp [DataW.TrodAll] at h
  | _ :: _, [], _, _, _, h, _, _ => by simp [DataW.TrodAll] at h
  | _ :: _, _ :: _, [], _, _, h, _, _ => by simp [DataW.TrodAll] at h
theorem Gr.below (h : Gr W W') : Below W.heap.size W W' := ⟨h.os, h.tape, h.output, h.size, h.block⟩
theorem law_post {f : Func} {s : ChangeSpec} {args : Array Value} {ds gs : List (DataW H)} {before : List MemPlace} {tb : TypeId} {fresh handsOn : Bool}
    (hl : laidOutB P = true) (hp : f.params.toList.all (fun t => P.readableRec t && decide (t < P.types.size)) = true) (hr : f.resultTypes = #[tb]) (htb : P.underlying tb = some .bool) (hv : s.vars = [])
    (hW : DataW.Whole enc P f.params.toList s.vars false W args.toList ds gs before) (hg : Gr W W') (hs : s.fn H ds = ⟨[.lit (.bool true)], ds, []⟩) : s.post enc P f false fresh handsOn false W args (.bool true) W' := by
  have hW' := hW
  obtain ⟨p, q, hA, hV, rfl, hfz, hnd⟩ := hW
  rw [hv] at hV
  obtain ⟨rfl, rfl⟩ : gs = [] ∧ q = [] := by
    cases gs
    · exact ⟨rfl, hV⟩
    · simp [DataW.TrodVars] at hV
  have hb : ∀ x ∈ p, x.block < W.heap.size := fun x hx => by simpa using hW'.lt x (List.mem_append_left _ hx)
  refine ⟨ds, [], _, [], p, [], hW', ?_, ?_, ?_, hg.below.frame _, fun h => by cases h⟩
  · rw [List.append_nil, hs, hr]
    exact trodAll_mk1 (shut_bool htb true)
  · rw [List.append_nil, hs]
    exact trodAll_stays hl hp hA (fun x hx => hg.below.same (hb x hx)) (fun x hx => by simpa using hb x hx)
  · rw [List.append_nil, hs, hv]
    rfl
theorem add_block (a : Addr) (i : Nat) : (a.add i).block = a.block := by unfold Addr.add; split <;> rfl
theorem add_off (a : Addr) (i : Nat) : (a.add i).off = a.off + i := by unfold Addr.add; split <;> simp_all
theorem op_str {t : TypeId} {v : Value} {r : Reach} {b0 : Nat} (ht : P.underlying t = some .string) (hv : Value.okWide P W r b0 t v) : ∃ s : Str, v = str s := by
  obtain ⟨s, rfl⟩ := okWide_string ht hv
  exact ⟨s.data.toList, rfl⟩
end
end Go.V
end

section
set_option linter.unusedVariables false
namespace Go.V
open Go.RowKit Go.ChangeShapes Go.WideShapes
instance : Dat Bool := ⟨1, fun b => [.bool b], fun _ => rfl, fun _ _ h => by cases List.mem_singleton.1 h; rfl, fun _ => Mo.tt⟩
class Rg (α : Type) where
  rg : α → Prop
instance : Rg Int := ⟨Go.S.I64⟩
instance : Rg Bool := ⟨fun _ => True⟩
instance : Rg UInt8 := ⟨fun _ => True⟩
instance : Rg Str := ⟨fun _ => True⟩
instance {α : Type} [Rg α] : Rg (Sv α) := ⟨fun s => ∀ z ∈ s.l, Rg.rg z⟩
section
variable {P : Program}
def Opn (P : Program) (t : TypeId) (α : Type) [Dat α] [Rg α] : Prop := ∀ {H : Type} {enc : TypeId × Value → H} {W : World} {b0 : Nat} {sp : Nat → Bool} {hd : Bool} {fuel : Nat} {cs : List Value} {x : DataW H × List MemPlace},
  DataW.trod enc P W b0 sp hd fuel t cs = some x → ∃ z : α, cs = Dat.enc z ∧ (Dat.deep z).on (wh W) ∧ Rg.rg z
theorem Opn.i64 {t : TypeId} (ht : P.underlying t = some (.int .i64)) : Opn P t Int := fun h => by
  obtain ⟨n, rfl, _, hw⟩ := DataW.trod_int ht h
  refine ⟨n, rfl, trivial, ?_⟩
  have hb : -9223372036854775808 ≤ n ∧ n ≤ 9223372036854775807 := by simpa [Lit.wf, IntKind.min, IntKind.max, IntKind.signed, IntKind.bits] using hw
  exact hb
theorem Opn.bool {t : TypeId} (ht : P.underlying t = some .bool) : Opn P t Bool := fun h => by
  obtain ⟨n, rfl, _⟩ := DataW.trod_bool ht h
  exact ⟨n, rfl, trivial, trivial⟩
theorem Opn.u8 {t : TypeId} (ht : P.underlying t = some (.int .u8)) : Opn P t UInt8 := fun h => by
  obtain ⟨n, rfl, _, hw⟩ := DataW.trod_int ht h
  have hb : 0 ≤ n ∧ n ≤ 255 := by simpa [Lit.wf, IntKind.min, IntKind.max, IntKind.signed, IntKind.bits] using hw
  refine ⟨UInt8.ofNat n.toNat, ?_, trivial, trivial⟩
  show [Value.int .u8 n] = [.int .u8 ((UInt8.ofNat n.toNat).toNat : Int)]
  rw [← u8_z hb rfl]
theorem Opn.str {t : TypeId} (ht : P.underlying t = some .string) : Opn P t Str := fun h => by
  obtain ⟨s, rfl, _, _⟩ := DataW.trod_string ht h
  exact ⟨s.data.toList, rfl, trivial, trivial⟩
theorem pick_list {α : Type} {Q : Nat → α → Prop} : ∀ (n : Nat), (∀ i, i < n → ∃ z, Q i z) → ∃ l : List α, l.length = n ∧ ∀ i z, l[i]? = some z → Q i z
  | 0, _ => ⟨[], rfl, fun i z h => by simp at h⟩
  | n + 1, h => by
    obtain ⟨l, hl, hq⟩ := pick_list n fun i hi => h i (by omega)
    obtain ⟨z, hz⟩ := h n (by omega)
    refine ⟨l ++ [z], by simp [hl], fun i y hy => ?_⟩
    rw [List.getElem?_append] at hy
    split at hy
    · exact hq i y hy
    · have : i = n := by
        have := (List.getElem?_eq_some_iff.1 hy).1
        simp at this; omega
      subst this
      rw [hl] at hy
      simp at hy
      subst hy
      exact hz
theorem cells_at {W : World} {b0 n : Nat} {a : Addr} {cs : List Value} (h : W.cells? b0 a n = some cs) (hn : 0 < n) : a.spot = none ∧ (wh W).at a.block a.off cs := by
  unfold World.cells? at h
  split at h
  · have hl := mapM_some_length h
    rw [List.length_range] at hl
    have hg : ∀ i, i < n → W.cell? (a.add i) = cs[i]? := fun i hi => mapM_some_get h i i (by simp [hi])
    have key : ∀ (c : Addr) (v : Value), W.cell? c = some v → c.spot = none ∧ (wh W).cell c.block c.off = some v := fun c v hc => by
      unfold World.cell? at hc
      unfold Hp.cell wh
      split at hc
      · next hb =>
        split at hc
        · cases hc
        · next hsp => exact ⟨by simpa using hsp, by rw [hb]; simpa using hc⟩
      · cases hc
    refine ⟨?_, fun j v hj => ?_⟩
    · obtain ⟨v, hv⟩ : ∃ v, cs[0]? = some v := ⟨_, List.getElem?_eq_getElem (by omega)⟩
      have := (key _ v ((hg 0 hn).trans hv)).1
      unfold Addr.add at this
      split at this <;> simp_all
    · have hjn : j < n := by have := (List.getElem?_eq_some_iff.1 hj).1; omega
      have := (key _ v ((hg j hjn).trans hj)).2
      rwa [add_block, add_off] at this
  · cases h
theorem Opn.sv {t e : TypeId} {α : Type} [Dat α] [Rg α] (ht : P.underlying t = some (.slice e)) (hc : P.cellsOf e = Dat.sz α) (hpos : 0 < Dat.sz α) (he : Opn P e α) : Opn P t (Sv α) := fun {H enc W b0 sp hd fuel cs x} h => by
  rcases DataW.trod_slice ht h with ⟨rfl, _⟩ | ⟨a, len, cap, elems, rest, n, _, rfl, _, hb, hl, hm, hlen, hel, _⟩
  · exact ⟨⟨none, 0, []⟩, rfl, ⟨Nat.le_refl _, by simp [maxLen], fun h => absurd rfl h, fun _ _ h => by simp at h, fun _ h => by cases h⟩, fun _ h => (by cases h)⟩
  · have each : ∀ i, i < len → ∃ z : α, W.cells? b0 (a.add (i * Dat.sz α)) (Dat.sz α) = some (Dat.enc z) ∧ (Dat.deep z).on (wh W) ∧ Rg.rg z := fun i hi => by
      have h1 := hel i hi
      rw [List.getElem?_eq_getElem (by omega), hc] at h1
      cases h2 : W.cells? b0 (a.add (i * Dat.sz α)) (Dat.sz α) with
      | none => rw [h2] at h1; cases h1
      | some cs' =>
        rw [h2] at h1
        obtain ⟨z, rfl, hz⟩ := he h1
        exact ⟨z, rfl, hz⟩
    obtain ⟨l, h1, h2⟩ := pick_list len each
    refine ⟨⟨some a, cap, l⟩, by rw [← h1]; rfl, ⟨by simpa [h1] using hl, hm, fun hne => ?_, fun i z hz => ?_, fun z hz => ?_⟩, fun z hz => ?_⟩
    · simp only at hne
      obtain ⟨z, hz⟩ : ∃ z, l[0]? = some z := ⟨_, List.getElem?_eq_getElem (List.length_pos_iff.2 hne)⟩
      have := (cells_at (h2 0 z hz).1 hpos).1
      simp only [Nat.zero_mul] at this
      cases a
      simp [Addr.add] at this
      simp_all [Sv.b, Sv.o]
    · have := (cells_at (h2 i z hz).1 hpos).2
      rw [add_block, add_off] at this
      exact this
    · obtain ⟨i, hi, rfl⟩ := List.mem_iff_getElem.1 hz
      exact (h2 i l[i] (List.getElem?_eq_getElem hi)).2.1
    · obtain ⟨i, hi, rfl⟩ := List.mem_iff_getElem.1 hz
      exact (h2 i l[i] (List.getElem?_eq_getElem hi)).2.2
theorem trod_fields {H : Type} {enc : TypeId × Value → H} {W : World} {b0 : Nat} {sp : Nat → Bool} {hd : Bool} {fuel : Nat} {cs : List Value} {x : DataW H × List MemPlace} {t : TypeId} {fs : Array Field} (ht : P.underlying t = some (.struct fs)) (h : DataW.trod enc P W b0 sp hd fuel t cs = some x) :
    cs.length = P.cellsOf t ∧ ∀ (i : Nat) (f : Field), fs[i]? = some f → ∃ (n : Nat) (y : DataW H × List MemPlace), DataW.trod enc P W b0 sp hd n f.type ((cs.drop f.offset).take (P.cellsOf f.type)) = some y := by
  obtain ⟨xs, n, _, _, hl, hx, hf⟩ := DataW.trod_struct ht h
  refine ⟨hl, fun i f hi => ⟨n, ?_⟩⟩
  have h1 := hf i f hi
  have hi' := (Array.getElem?_eq_some_iff.1 hi).1
  rw [List.getElem?_eq_getElem (by omega)] at h1
  exact ⟨_, h1⟩
theorem Opn.fld {H : Type} {enc : TypeId × Value → H} {W : World} {b0 : Nat} {sp : Nat → Bool} {hd : Bool} {cs cs' : List Value} {t : TypeId} {α : Type} [Dat α] [Rg α] (ho : Opn P t α) {off k : Nat} (hk : P.cellsOf t = k) (h : ∃ (n : Nat) (y : DataW H × List MemPlace), DataW.trod enc P W b0 sp hd n t ((cs.drop off).take (P.cellsOf t)) = some y) (hc : (cs.drop off).take k = cs') :
    ∃ z : α, cs' = Dat.enc z ∧ (Dat.deep z).on (wh W) ∧ Rg.rg z := by
  subst hk
  subst hc
  obtain ⟨n, y, h⟩ := h
  exact ho h
theorem Opn.arg {t : TypeId} {α : Type} [Dat α] [Rg α] (ho : Opn P t α) {H : Type} {enc : TypeId × Value → H} {W : World} {b0 : Nat} {sp : Nat → Bool} {hd : Bool} {v : Value} {d : DataW H} {p : List MemPlace} (h : DataW.Trod enc P W b0 sp hd t v d p) : ∃ z : α, v.cells.toList = Dat.enc z ∧ (Dat.deep z).on (wh W) ∧ Rg.rg z := by
  obtain ⟨f, h⟩ := h
  exact ho h
theorem okw_slice {W : World} {r : Reach} {b0 : Nat} {t e : TypeId} {v : Value} {α : Type} [Dat α] {z : Sv α} (ht : P.underlying t = some (.slice e)) (h : Value.okWide P W r b0 t v) (hc : v.cells.toList = Dat.enc z) : v = z.val := by
  obtain ⟨a0, len, cap, rfl⟩ := okWide_slice ht h
  have : [Value.slice a0 len cap] = [z.val] := hc
  exact List.head_eq_of_cons_eq this
end
end Go.V
end

section
set_option linter.unusedVariables false
namespace Go.V
open Go.RowKit
theorem handle_laid {P : Program} {W : World} {name : String} {nm : List UInt8} {u0 ty0 : TypeId} {g : Nat} {d : DataW Unit} {v : Value} {L : List (String × DataW Unit)} (hg : P.globalNamed name = some g) (hm : L.find? (fun x => x.1 == name) = some (name, d)) (hn : d.handleName? = some nm) (hfn : d.funcsIn? = none)
    (hu : (P.cutTypes.find? (·.1 == "internal/reflectlite.rtype")).map (·.2) = some u0) (hone : ((List.range P.types.size).filter fun t => P.rowNamed t nm) = [ty0]) (hv : typeHandle P ty0 = v) (h : laidMetH P L W) : (GBlk g #[.iface u0 (.agg #[v])]).on (wh W) := by
  have hL : (name, d) ∈ L.filter fun x => x.2.handleName?.isSome := List.mem_filter.2 ⟨List.mem_of_find?_eq_some hm, by simp [hn]⟩
  have h' := (laidMetH_iff.1 h).2 _ hL
  simp only [hfn] at h'
  obtain ⟨nm', u, ty, e1, e2, e3, e4, e5⟩ := h'
  rw [hn] at e1
  obtain rfl := Option.some.inj e1
  obtain rfl := Option.some.inj (hu.symm.trans e2)
  have hm : ty ∈ (List.range P.types.size).filter fun t => P.rowNamed t nm := List.mem_filter.2 ⟨List.mem_range.2 e3, e4⟩
  rw [hone] at hm
  obtain rfl := List.mem_singleton.1 hm
  rw [hv] at e5
  exact GBlk.of_var hg e5
theorem laidMet_on {P : Program} {w0 : World} {laid : List (String × DataW Unit)} (args : Array Value) (hf : w0.layFits P laid [] = true) (hi : w0.layIfaces P laid (w0.layVars P laid) = true) :
    laidMet P laid ((w0.layVars P laid).forCall (fun _ _ => 0) ⟨#[], args, []⟩).memory := by
  have e1 : (laid.filter fun x => (laid.map (·.1)).contains x.1) = laid := List.filter_eq_self.2 fun x hx => List.contains_iff_mem.2 (List.mem_map.2 ⟨x, hx, rfl⟩)
  have e2 : (laid.filter fun x => !(laid.map (·.1)).contains x.1) = [] := List.filter_eq_nil_iff.2 fun x hx => by rw [List.contains_iff_mem.2 (List.mem_map.2 ⟨x, hx, rfl⟩)]; simp
  have h : laidMet P laid (w0.layVars P laid) := laidMet_layVars (w0 := w0) (laid.map (·.1)) [] (by rw [e1]) (by rw [e1]; exact hf) (by rw [e1]; exact hi) (by rw [e2]; exact LaidIn.none)
  exact h.of_heap (by simp [World.memory, World.forCall, Input.heap])
noncomputable def heldW (P : Program) (os : Os) (g : Nat) (v : Value) : World :=
  { World.holding P os ⟨#[], #[], []⟩ with heap := (World.holding P os ⟨#[], #[], []⟩).heap.modify g fun
      | .cells _ t frozen => .cells #[v] t frozen
      | o => o }
end Go.V
end

section
namespace Go.V
open Go.RowKit
section
variable {P : Program} {N : Nat} {c : Cx} {ops : Array Oper} {Q : Exit → Act → World → Prop} {ρ : Env} {M : Mo} {E : Ow} {D : List (Nat × Value)} {k : Nat}
end
end Go.V
end

section
set_option linter.unusedVariables false
set_option linter.unusedSimpArgs false
set_option linter.unusedSectionVars false
def Go.S.joinS (l : List (List UInt8)) (sep : List UInt8) : List UInt8 := Go.Lib.join l sep
namespace Go.V
open Go.RowKit Go.S
section
variable {P : Program} {N : Nat} {c : Cx} {ops : Array Oper} {Q Q1 : Exit → Act → World → Prop} {rest : List Oper} {o : Oper} {ρ : Env} {M M' M1 M0 : Mo} {E E1 F A : Ow} {v u : Value} {X S T R : Type}
  {d : Nat} {od : Option Nat} {ty : TypeId} {pos : String} {after : Array Edge} {gd : Option (Nat × Bool)} {x y : Operand} {t t' e tb : TypeId} {f : FuncId} {args : List Value} {k k' : IntKind} {m n : Int} {α : Type} [Dat α]
theorem VD.partK {k : Nat} {rr : List (Nat × Bool)} {D : List (Nat × Value)} {s : Sv α} {lo hi mx : Option Operand} {lo' hi' mx' : Option Int} (hk : ops[k]? = some ⟨some d, .slice t x lo hi mx, ty, pos, after, none⟩) (l r : Nat) (hu : P.underlying t = some (.slice e)) (hz : (P.info? e).map (·.size) = some (Dat.sz α)) (e0 : ρ.ev x = some s.val)
    (e1 : optv ρ lo = some lo') (e2 : optv ρ hi = some hi') (e3 : optv ρ mx = some mx') [hs : InM M s.ok] (hl : lo'.getD 0 = (l : Int)) (hr : hi'.getD s.l.length = (r : Int)) (hm : mx' = none ∨ mx' = some (r : Int)) (hmx : mx'.isSome = true → hi'.isSome = true) (h1 : l ≤ r) (h4 : r ≤ s.l.length) (hd : d < N)
    (kk : ∀ (q : Sv α), q.l = (s.l.drop l).take (r - l) → (∀ {ρ' : Env} {M' : Mo} {E' : Ow}, ρ'.ev x = some s.val → optv ρ' lo = some lo' → optv ρ' hi = some hi' → optv ρ' mx = some mx' → Qt P N c ⟨some d, .slice t x lo hi mx, ty, pos, after, none⟩ q.val ρ' M' E') → VD P N c ops Q rr (addD ops k q.val D) ((d, q.val) :: ρ) (q.ok.and M) E) : VD P N c ops Q ((k, true) :: rr) D ρ M E :=
  VD.factM (φ := s.l.length ≤ s.c) (fun h m => (hs.out h m).1) fun hc => by
    obtain ⟨m, m1, m2, m3⟩ := cut_aux lo' hi' mx' l r hl hr hm h4 hc
    exact VD.q hk (q_cut l r m hu hz e0 e1 e2 e3 hl hr m1 hmx h1 m2 m3 h4) hd (VD.addM (s.sub l r m).ok (fun h q => Sv.sub_ok h1 h4 m2 m3 (hs.out h q)) (kk _ rfl fun e0 e1 e2 e3 => q_cut l r m hu hz e0 e1 e2 e3 hl hr m1 hmx h1 m2 m3 h4))
theorem VD.smidK {k' : Nat} {rr : List (Nat × Bool)} {D : List (Nat × Value)} {s : Sv α} {z : Operand} {m n : Int} (hk : ops[k']? = some ⟨some d, .slice t x (some y) (some z) none, ty, pos, after, none⟩) (hu : P.underlying t = some (.slice e)) (hz : (P.info? e).map (·.size) = some (Dat.sz α)) (e0 : ρ.ev x = some s.val) (e1 : ρ.ev y = some (i64 m)) (e2 : ρ.ev z = some (i64 n)) [hs : InM M s.ok] (h0 : 0 ≤ m) (h1 : m ≤ n) (h2 : n ≤ s.l.length) (hd : d < N)
    (kk : ∀ (q : Sv α), q.l = (s.l.drop m.toNat).take (n.toNat - m.toNat) → (∀ {ρ' : Env} {M' : Mo} {E' : Ow}, ρ'.ev x = some s.val → ρ'.ev y = some (i64 m) → ρ'.ev z = some (i64 n) → Qt P N c ⟨some d, .slice t x (some y) (some z) none, ty, pos, after, none⟩ q.val ρ' M' E') → VD P N c ops Q rr (addD ops k' q.val D) ((d, q.val) :: ρ) (q.ok.and M) E) : VD P N c ops Q ((k', true) :: rr) D ρ M E :=
  VD.partK (lo' := some m) (hi' := some n) (mx' := none) hk m.toNat n.toNat hu hz e0 (by simp [optv, e1]) (by simp [optv, e2]) rfl (by simp; omega) (by simp; omega) (.inl rfl) (fun h => by cases h) (by omega) (by omega) hd fun q hq h => kk q hq fun a b c' => h a (by simp [optv, b]) (by simp [optv, c']) rfl
end
end Go.V
end

section
set_option linter.unusedVariables false
set_option linter.unusedSimpArgs false
set_option linter.unusedSectionVars false
namespace Go.V
open Go.RowKit Go.S
section
variable {P : Program} {N : Nat} {c : Cx} {ops : Array Oper} {Q Q1 : Exit → Act → World → Prop} {rest : List Oper} {o : Oper} {ρ : Env} {M M' M1 M0 : Mo} {E E1 F A : Ow} {v u : Value} {X S T R : Type}
  {d : Nat} {od : Option Nat} {ty : TypeId} {pos : String} {after : Array Edge} {gd : Option (Nat × Bool)} {x y : Operand} {t t' e tb : TypeId} {f : FuncId} {args : List Value} {k k' : IntKind} {m n : Int} {α : Type} [Dat α]
theorem VL.open {s : Sv α} (hE : Foc E (s.own e) F) (hl : s.c ≠ 0) (kk : ∀ (b : Nat) (cs : List Value), s.a = some ⟨b, 0, none⟩ → cs.length = s.c * Dat.sz α → cs.take (s.l.length * Dat.sz α) = s.l.flatMap Dat.enc → s.l.length ≤ s.c → s.c ≤ maxLen → VL P N c ops Q rest ρ M (Ow.star (Blk b cs e) F)) : VL P N c ops Q rest ρ M E := fun a w g s0 => by
  obtain ⟨⟨hp, ee, m, eE, dd, l, k, r1, r2, r3⟩, f1, f2, f3, f4, f5⟩ := id s0
  obtain ⟨p, q, d1, j1, ⟨q1, q2, q3⟩, hq⟩ := hE ee eE
  rcases q3 with ⟨w1, w2⟩ | ⟨b, cur, w1, w2, w3, w4⟩
  · exact absurd w2 hl
  · exact kk b cur.toList w1 (by rw [Array.length_toList, w3]) w4 q1 q2 a w g ⟨⟨hp, ee, m, ⟨p, q, d1, j1, by unfold Blk; rw [Array.toArray_toList]; exact w2, hq⟩, dd, l, k, r1, r2, r3⟩, f1, f2, f3, f4, f5⟩
end
end Go.V
end

section
namespace Go.S
open Go
def insS (x : List UInt8) : List (List UInt8) → List (List UInt8)
  | [] => [x]
  | y :: r => if Op.bytesLess y x = true then y :: insS x r else x :: y :: r
def sortS : List (List UInt8) → List (List UInt8)
  | [] => []
  | x :: r => insS x (sortS r)
theorem insS_perm (x : List UInt8) : ∀ l, (insS x l).Perm (x :: l)
  | [] => List.Perm.refl _
  | y :: r => by
    unfold insS
    split
    · exact ((insS_perm x r).cons y).trans (List.Perm.swap x y r)
    · exact List.Perm.refl _
theorem sortS_perm : ∀ l, (sortS l).Perm l
  | [] => List.Perm.refl _
  | x :: r => (insS_perm x _).trans ((sortS_perm r).cons x)
theorem insS_sorted (x : List UInt8) : ∀ l : List (List UInt8), l.Pairwise (· ≤ ·) → (insS x l).Pairwise (· ≤ ·)
  | [], _ => by simp [insS]
  | y :: r, h => by
    unfold insS
    have h1 := List.pairwise_cons.1 h
    split
    · next hb =>
      rw [Go.Proofs.bytesLess_eq, decide_eq_true_eq] at hb
      refine List.pairwise_cons.2 ⟨fun z hz => ?_, insS_sorted x r h1.2⟩
      rcases List.mem_cons.1 ((insS_perm x r).mem_iff.1 hz) with q | q
      · rw [q]; exact List.le_of_lt hb
      · exact h1.1 z q
    · next hb =>
      rw [Go.Proofs.bytesLess_eq, decide_eq_true_eq] at hb
      have hxy : x ≤ y := List.not_lt.1 hb
      refine List.pairwise_cons.2 ⟨fun z hz => ?_, h⟩
      rcases List.mem_cons.1 hz with q | q
      · rw [q]; exact hxy
      · exact List.le_trans hxy (h1.1 z q)
theorem sortS_sorted : ∀ l : List (List UInt8), (sortS l).Pairwise (· ≤ ·)
  | [] => List.Pairwise.nil
  | x :: r => insS_sorted x _ (sortS_sorted r)
theorem sortS_eq (l : List (List UInt8)) : sortS l = l.mergeSort (fun x y => decide (x ≤ y)) := by
  have tr : ∀ a b c : List UInt8, decide (a ≤ b) = true → decide (b ≤ c) = true → decide (a ≤ c) = true := fun a b c h1 h2 => by simp only [decide_eq_true_eq] at *; exact List.le_trans h1 h2
  have to : ∀ a b : List UInt8, (decide (a ≤ b) || decide (b ≤ a)) = true := fun a b => by simp only [Bool.or_eq_true, decide_eq_true_eq]; exact List.le_total a b
  refine List.Perm.eq_of_pairwise (le := fun a b => decide (a ≤ b) = true) (fun a b _ _ h1 h2 => ?_) ((sortS_sorted l).imp fun h => decide_eq_true h) (List.pairwise_mergeSort tr to l) ((sortS_perm l).trans (List.mergeSort_perm l _).symm)
  simp only [decide_eq_true_eq] at h1 h2
  exact List.le_antisymm h1 h2
def cstep (acc : List (List UInt8)) (z : List UInt8) : List (List UInt8) := if acc.getLast? = some z then acc else acc ++ [z]
def compactS (l : List (List UInt8)) : List (List UInt8) := l.foldl cstep []
theorem compact_upto (l : List (List UInt8)) : ∀ m, m ≤ l.length → Lib.compactUpTo l.toArray m = (l.take m).foldl cstep [] ∧ (Lib.compactUpTo l.toArray m).getLast? = if m = 0 then none else l[m - 1]?
  | 0, _ => by simp [Lib.compactUpTo]
  | m + 1, h => by
    obtain ⟨h1, h2⟩ := compact_upto l m (by omega)
    have hm : m < l.length := by omega
    have hg : l.toArray[m]! = l[m] := by simp [hm]
    rw [Lib.compactUpTo_succ, List.take_add_one, List.getElem?_eq_getElem hm, List.foldl_append, ← h1]
    simp only [Option.toList, List.foldl_cons, List.foldl_nil, cstep, h2, hg]
    by_cases h0 : m = 0
    · subst h0
      simp [Lib.keeps]
    · have hp : m - 1 < l.length := by omega
      have hg2 : l.toArray[m - 1]! = l[m - 1] := by simp [hp]
      simp only [if_neg h0, List.getElem?_eq_getElem hp, Option.some.injEq]
      by_cases he : l[m - 1] = l[m]
      · have hk : Lib.keeps l.toArray m = false := Lib.keeps_neg (by omega) (by rw [hg, hg2, he])
        simp only [hk, if_pos he, Bool.false_eq_true, if_false, List.append_nil, h2, if_neg h0, List.getElem?_eq_getElem hp]
        simp [he, hm]
      · have hk : Lib.keeps l.toArray m = true := Lib.keeps_pos (by rw [hg, hg2]; exact fun e => he e.symm)
        simp only [hk, if_neg he, if_true]
        simp [hm]
theorem compactS_eq (l : List (List UInt8)) : compactS l = Lib.compact l := by
  have := (compact_upto l l.length (Nat.le_refl _)).1
  rw [List.take_length] at this
  exact this.symm
theorem compact_len (l : List (List UInt8)) : (compactS l).length ≤ l.length := by
  unfold compactS
  suffices h : ∀ (acc : List (List UInt8)) (l : List (List UInt8)), (l.foldl cstep acc).length ≤ acc.length + l.length by simpa using h [] l
  intro acc l
  induction l generalizing acc with
  | nil => simp
  | cons x r ih =>
    refine Nat.le_trans (ih (cstep acc x)) ?_
    have : (cstep acc x).length ≤ acc.length + 1 := by unfold cstep; split <;> simp
    simp only [List.length_cons]; omega
theorem cstep_sorted (acc : List (List UInt8)) (z : List UInt8) (h : acc.Pairwise (· < ·)) (hz : ∀ y ∈ acc, y ≤ z) : (cstep acc z).Pairwise (· < ·) ∧ ∀ y, y ∈ cstep acc z ↔ y ∈ acc ∨ y = z := by
  unfold cstep
  split
  · next he =>
    refine ⟨h, fun y => ⟨.inl, fun q => q.elim id fun q => ?_⟩⟩
    rw [q]; exact List.mem_of_getLast? he
  · next hne =>
    refine ⟨List.pairwise_append.2 ⟨h, List.pairwise_singleton _ _, fun a ha c hc => ?_⟩, fun y => by simp⟩
    rw [List.mem_singleton.1 hc]
    have hle := hz a ha
    by_cases hlt : a < z
    · exact hlt
    · have hza : z = a := List.le_antisymm (List.not_lt.1 hlt) hle
      subst hza
      -- the last one is at least as great as z, and not z: no
      exfalso
      have hnil : acc ≠ [] := fun q => by rw [q] at ha; cases ha
      have hl : acc.getLast? = some (acc.getLast hnil) := List.getLast?_eq_some_getLast hnil
      have hm := List.getLast_mem hnil
      have hle2 := hz _ hm
      rw [hl] at hne
      have hcat : acc = acc.dropLast ++ [acc.getLast hnil] := (List.dropLast_concat_getLast hnil).symm
      rw [hcat] at ha h
      rcases List.mem_append.1 ha with q | q
      · have hq := (List.pairwise_append.1 h).2.2 z q _ (List.mem_singleton_self _)
        exact absurd hle2 (List.not_le.2 hq)
      · exact hne (congrArg some (List.mem_singleton.1 q).symm)
theorem compact_sorted : ∀ (l acc : List (List UInt8)), acc.Pairwise (· < ·) → (∀ y ∈ acc, ∀ z ∈ l, y ≤ z) → l.Pairwise (· ≤ ·) → (l.foldl cstep acc).Pairwise (· < ·) ∧ ∀ y, y ∈ l.foldl cstep acc ↔ y ∈ acc ∨ y ∈ l
  | [], acc, h, _, _ => ⟨h, fun y => by simp⟩
  | z :: r, acc, h, h1, h2 => by
    have hs := cstep_sorted acc z h (fun y hy => h1 y hy z (List.mem_cons_self ..))
    have hp := List.pairwise_cons.1 h2
    have ih := compact_sorted r (cstep acc z) hs.1 (fun y hy w hw => by
      rcases (hs.2 y).1 hy with q | q
      · exact h1 y q w (List.mem_cons_of_mem _ hw)
      · rw [q]; exact hp.1 w hw) hp.2
    refine ⟨ih.1, fun y => ?_⟩
    rw [List.foldl_cons, ih.2 y, hs.2 y, List.mem_cons]
    constructor
    · rintro ((q | q) | q)
      · exact .inl q
      · exact .inr (.inl q)
      · exact .inr (.inr q)
    · rintro (q | q | q)
      · exact .inl (.inl q)
      · exact .inl (.inr q)
      · exact .inr q
def keysS (l : List (List UInt8)) : List (List UInt8) := compactS (sortS l)
theorem keysS_lt (l : List (List UInt8)) : (keysS l).Pairwise (· < ·) := (compact_sorted (sortS l) [] List.Pairwise.nil (fun y h => by cases h) (sortS_sorted l)).1
theorem keysS_mem (l : List (List UInt8)) (y : List UInt8) : y ∈ keysS l ↔ y ∈ l := by
  have := (compact_sorted (sortS l) [] List.Pairwise.nil (fun y h => by cases h) (sortS_sorted l)).2 y
  rw [show keysS l = (sortS l).foldl cstep [] from rfl, this]
  simp [(sortS_perm l).mem_iff]
theorem keysS_len (l : List (List UInt8)) : (keysS l).length ≤ l.length := by
  have h1 := compact_len (sortS l)
  rw [(sortS_perm l).length_eq] at h1
  exact h1
theorem keysS_of {l ss : List (List UInt8)} (hn : ss.Nodup) (hm : ∀ y, y ∈ ss ↔ y ∈ l) : ss.mergeSort (fun x y => decide (x ≤ y)) = keysS l := by
  rw [← sortS_eq]
  have hk : (keysS l).Nodup := (keysS_lt l).imp (fun {a b} (h : a < b) (e : a = b) => List.lt_irrefl b (e ▸ h))
  refine List.Perm.eq_of_pairwise (le := fun a b => decide (a ≤ b) = true) (fun a b _ _ h1 h2 => ?_) ((sortS_sorted ss).imp fun h => decide_eq_true h) ((keysS_lt l).imp fun h => decide_eq_true (List.le_of_lt h)) ((sortS_perm ss).trans ((List.perm_ext_iff_of_nodup hn hk).2 fun y => (hm y).trans (keysS_mem l y).symm))
  simp only [decide_eq_true_eq] at h1 h2
  exact List.le_antisymm h1 h2
end Go.S
end

section
set_option linter.unusedVariables false
set_option linter.unusedSimpArgs false
set_option linter.unusedSectionVars false
namespace Go.V
open Go.RowKit Go.S Go.Sort
theorem putCells_toList {enc : Str → Value} (d : List Str) (cur : Array Value) (h : d.length ≤ cur.size) : (putCells enc 0 d.toArray cur).toList = d.map enc ++ cur.toList.drop d.length := by
  apply List.ext_getElem?
  intro j
  unfold putCells
  rw [Array.getElem?_toList, Array.getElem?_mapIdx]
  by_cases hj : j < d.length
  · have hc : j < cur.size := by omega
    rw [List.getElem?_append_left (by simpa using hj)]
    simp [hc, hj]
  · rw [List.getElem?_append_right (by simp; omega)]
    simp only [List.length_map, List.getElem?_drop, Array.getElem?_toList, List.size_toArray]
    rw [show d.length + (j - d.length) = j by omega]
    cases hc : cur[j]? with
    | none => rfl
    | some x => simp; omega
theorem Ct.compact {P : Program} {f : FuncId} (he : ∀ (xs : Array Value) (w : World), (callFunc f xs).run P w = .ok (.enter f xs) w)
    (hc : ∀ (blk off cap : Nat) (ss : List (List UInt8)) (w : World), Holds Go.Proofs.encStr w blk off ss.toArray → ss.length ≤ 9223372036854775807 → ss.length ≤ cap →
      Calls P f #[.slice (some ⟨blk, off, none⟩) ss.length cap] w fun e w' => e = .returned (.slice (some ⟨blk, off, none⟩) (Lib.compact ss).length cap) ∧ ∃ q, w' = putRow Go.Proofs.encStr (Sort.ahead w q) blk off (Lib.compact ss ++ List.replicate (ss.length - (Lib.compact ss).length) []).toArray)
    (hn : ∀ (p : Option Addr) (cap : Nat) (w : World), Calls P f #[.slice p 0 cap] w fun e w' => e = .returned (.slice p 0 cap) ∧ w' = w)
    (s : Sv Str) (T : TypeId) (hb : s.l.length ≤ 4294967296) :
    Ct P f [s.val] Mo.tt (s.own T) (X := Sv Str) (fun q => q.val) (fun q => q.l = compactS s.l) (fun _ => Mo.tt) (fun q => q.own T) :=
  ⟨he, fun w hp z m hA d l k => by
    have hA0 := hA
    obtain ⟨hlc, hcm, ⟨hl0, hc0⟩ | ⟨b, cur, hsa, hg, hcs, ht⟩⟩ := hA
    · have e1 : s.val = .slice s.a 0 s.c := by unfold Sv.val; rw [hl0]; rfl
      rw [e1]
      refine (hn s.a s.c w).mono fun e w' ⟨h1, h2⟩ => ⟨_, h1, s, e1.symm, by show s.l = compactS s.l; rw [hl0]; rfl, ?_⟩
      subst h2
      exact ⟨⟨hp, z, trivial, hA0, d, l, k, Hp.le.refl hp, fun b hb => .inl hb, fun b hb => .inl hb⟩, fun b _ _ => rfl, rfl, rfl, rfl, Nat.le_refl _⟩
    · have hw : w.heap[b]? = some (.cells cur T (0, 0)) := k _ _ hg
      have hsz : Dat.sz Str = 1 := rfl
      rw [hsz, Nat.mul_one] at hcs ht
      have hfl : ∀ l : List Str, l.flatMap Dat.enc = l.map Go.Proofs.encStr := fun l => by
        rw [List.map_eq_flatMap]; rfl
      rw [hfl] at ht
      have hH : Holds Go.Proofs.encStr w b 0 s.l.toArray := fun j hj => by
        have hj' : j < s.l.length := by simpa using hj
        have h1 : cur[j]? = some (Go.Proofs.encStr s.l[j]) := by
          have := congrArg (fun l => l[j]?) ht
          simp only [List.getElem?_take, if_pos hj', List.getElem?_map, List.getElem?_eq_getElem hj', Option.map_some] at this
          rw [← Array.getElem?_toList]; exact this
        refine ⟨?_, by simp [World.frozen?, hw]⟩
        simp only [World.cell?, hw, Nat.zero_add, h1]
        simp [hj']
      have e1 : s.val = .slice (some ⟨b, 0, none⟩) s.l.length s.c := by unfold Sv.val; rw [hsa]
      rw [e1]
      have hle := compact_len s.l
      refine (hc b 0 s.c s.l w hH (by omega) hlc).mono fun e w' ⟨h1, n, h2⟩ => ⟨_, h1, ⟨s.a, s.c, compactS s.l⟩, by unfold Sv.val; rw [compactS_eq, hsa], rfl, ?_⟩
      rw [← compactS_eq] at h2
      have hlen : (compactS s.l ++ List.replicate (s.l.length - (compactS s.l).length) []).length = s.l.length := by simp; omega
      generalize hD : compactS s.l ++ List.replicate (s.l.length - (compactS s.l).length) [] = D at h2 hlen
      have hw1 : (putRow Go.Proofs.encStr (Sort.ahead w n) b 0 D.toArray).heap[b]? = some (.cells (putCells Go.Proofs.encStr 0 D.toArray cur) T (0, 0)) := by
        unfold putRow mapBlock
        simp only [Array.getElem?_modify, if_true]
        show (w.heap[b]?).map _ = _
        rw [hw]; rfl
      have ho1 : ∀ i, i ≠ b → (putRow Go.Proofs.encStr (Sort.ahead w n) b 0 D.toArray).heap[i]? = w.heap[i]? := fun i hi => by
        unfold putRow mapBlock
        simp only [Array.getElem?_modify, if_neg (Ne.symm hi)]
        rfl
      have hs1 : (putRow Go.Proofs.encStr (Sort.ahead w n) b 0 D.toArray).heap.size = w.heap.size := by rw [size_putRow]; rfl
      rw [h2]
      refine St.turn (A := Sv.own _ T) hg d trivial l ⟨Nat.le_trans hle hlc, hcm, .inr ⟨b, _, hsa, Hp.one_self _ _, ?_, ?_⟩⟩ hs1 hw1 ho1 rfl rfl rfl
      · rw [hsz, Nat.mul_one]; simp [putCells, hcs]
      · rw [hsz, Nat.mul_one, putCells_toList D cur (by rw [hlen, hcs]; exact hlc), hfl, ← hD, List.map_append, List.append_assoc]
        rw [List.take_append_of_le_length (by simp), List.take_of_length_le (by simp)]⟩
end Go.V
end

section
set_option linter.unusedVariables false
set_option linter.unusedSimpArgs false
set_option linter.unusedSectionVars false
namespace Go.V
open Go.RowKit Go.S Go.Sort Go.Maps
open Go.WideElems (Fit rg)
def MpK (P : Program) (k e : TypeId) (b : Nat) (l : List Str) : Ow := fun z => ∃ es clock, z b = some (.map es clock) ∧ Fit (H := Unit) P k (plainElem P e) es clock ∧ es.size ≤ l.length ∧ ∀ x : Str, has (H := Unit) (.map ((es.toList.map (rg P k (plainElem P e))).foldr DataW.insert [])) (.string x) = true ↔ x ∈ l
theorem MpK.owns {P : Program} {k e : TypeId} {b : Nat} {l : List Str} {z : Hp} {w : World} (h : MpK P k e b l z) (lz : z.le (wh w)) : ∃ D : DataW Unit, w.ownsMap P k (plainElem P e) b l.length D ∧ ∀ x : Str, has D (.string x) = true ↔ x ∈ l := by
  obtain ⟨es, clock, h1, h2, h3, h4⟩ := h
  exact ⟨_, ⟨es, clock, lz _ _ h1, h2, h3, rfl⟩, h4⟩
section
variable {P : Program} {N : Nat} {c : Cx} {ops : Array Oper} {Q Q1 : Exit → Act → World → Prop} {rest : List Oper} {o : Oper} {ρ : Env} {M M' M1 M0 : Mo} {E E1 F A : Ow} {v u : Value} {X S T R : Type}
  {d : Nat} {od : Option Nat} {ty : TypeId} {pos : String} {after : Array Edge} {gd : Option (Nat × Bool)} {x y m' : Operand} {t t' e k : TypeId} {f : FuncId}
theorem VL.mkmap (hd : d < N) (kk : ∀ b : Nat, VL P N c ops Q rest ((d, .map (some b)) :: ρ) M (Ow.star (MpK P k e b []) E)) : VL P N c ops Q (⟨some d, .makeMap t none, ty, pos, after, none⟩ :: rest) ρ M E :=
  VL.newO (S := Nat) (val := fun b => .map (some b)) (φ := fun _ => True) (A := fun b => MpK P k e b []) (fun a w g => by
    refine ⟨w.heap.size, w.alloc (.map #[] 0), .map #[] 0, ?_, trivial, Gr.alloc w _, heap_alloc_new w _, ?_⟩
    · simp only [execOp, Option.map_none, Sem.run_bind, run_makeMap, Result.andThen_ok, Sem.run_pure]
    · obtain ⟨es, clock, h1, h2, h3, h4⟩ := World.ownsMap_made (H := Unit) w P k (plainElem P e)
      have h5 := heap_alloc_new w (.map #[] 0)
      rw [h5] at h1
      cases h1
      exact ⟨#[], 0, Hp.one_self _ _, h2, Nat.le_refl _, fun x => by simp [has]⟩) hd fun b _ => kk b
theorem St.turnG {w w' : World} {h z : Hp} {b : Nat} {o o' : Obj} (hz : z b = some o) (hoff : h.off z) (hm : M.on h) (l : h.le (wh w)) (hA : A (Hp.one b o')) (hs : w.heap.size ≤ w'.heap.size) (hb : w'.heap[b]? = some o') (ho : ∀ i, i < w.heap.size → i ≠ b → w'.heap[i]? = w.heap[i]?) (e1 : w'.os = w.os) (e2 : w'.tape = w.tape) (e3 : w'.output = w.output) :
    St ⟨w, h, fun i => z i ≠ none⟩ M A w' := by
  have hbn : h b = none := (hoff b).resolve_right (by rw [hz]; simp)
  refine ⟨⟨h, Hp.one b o', hm, hA, fun i => ?_, fun i p hp => ?_, fun i p hp => ?_, Hp.le.refl h, fun i hi => .inl hi, fun i hi => .inl ?_⟩, fun i hi hd => ho i hi ?_, e1, e2, e3, hs⟩
  · by_cases hib : i = b
    · subst hib; exact .inl hbn
    · right; unfold Hp.one; rw [if_neg hib]
  · have hib : i ≠ b := fun q => by rw [q, hbn] at hp; cases hp
    have hlt := (Array.getElem?_eq_some_iff.1 (l i p hp)).1
    show w'.heap[i]? = _
    rw [ho i hlt hib]
    exact l i p hp
  · unfold Hp.one at hp
    split at hp
    · next q => subst q; cases hp; exact hb
    · cases hp
  · have : i = b := by
      unfold Hp.one at hi
      split at hi
      · assumption
      · exact absurd rfl hi
    subst this; show z i ≠ none; rw [hz]; simp
  · intro q; subst q; exact hd (by show z i ≠ none; rw [hz]; simp)
theorem VL.mapset {b : Nat} {l : List Str} {s : Str} (hk : P.underlying k = some .string) (he : P.underlying e = some .bool) (ht : P.underlying t = some (.map k e)) (hE : Foc E (MpK P k e b l) F)
    (e0 : ρ.ev m' = some (.map (some b))) (e1 : ρ.ev x = some (str s)) (e2 : ρ.ev y = some (.bool true)) (hl : l.length ≤ 4294967296 ∧ s.length ≤ 4294967296)
    (kk : VL P N c ops Q rest ρ M (Ow.star (MpK P k e b (s :: l)) F)) : VL P N c ops Q (⟨none, .mapUpdate t m' x y, ty, pos, after, none⟩ :: rest) ρ M E := by
  refine VL.bigS (A2 := MpK P k e b (s :: l)) hE (fun a w h z g hoff hm hA lh lz => ?_) kk
  obtain ⟨D, hown, hD⟩ := hA.owns lz
  obtain ⟨es0, clock0, hz0, _⟩ := hA
  obtain ⟨w', hrun, hown', hg⟩ := hown.update (string_keyed hk) ht (by unfold maxLen; omega) (Go.WideMaps.keyOf_string_mk (s := ⟨⟨s⟩⟩) hk (by show s.length ≤ maxLen; unfold maxLen; omega)) (plainElem_bool he true)
  obtain ⟨es, clock, h1, h2, h3, h4⟩ := hown'
  have hm2 : IsMap D := by obtain ⟨_, _, _, _, _, q⟩ := hown; exact ⟨_, q⟩
  refine ⟨w', ?_, St.turnG (A := MpK P k e b (s :: l)) hz0 hoff trivial lh ⟨es, clock, Hp.one_self _ _, h2, by simpa using h3, fun y => ?_⟩ hg.size h1 (fun i hi hib => hg.block i hi (fun q => hib (Option.some.inj q))) hg.os hg.tape hg.output⟩
  · simp only [execOp, g.ev e0, g.ev e1, g.ev e2, Sem.run_bind, hrun, Result.andThen_ok, Sem.run_pure]
  · rw [← h4]
    by_cases hy : y = s
    · subst hy
      exact ⟨fun _ => List.mem_cons_self .., fun _ => has_put_same (k := .string y) hm2 (show Go.WideAt.IsKeyLit (.string y) from True.intro) _⟩
    · rw [has_put_other (by simpa using hy), hD y]
      simp [hy]
theorem Ct.mapKeys {it T b : Nat} (he : ∀ (xs : Array Value) (w : World), (callFunc f xs).run P w = .ok (.enter f xs) w)
    (hc : ∀ (mb : Option Nat) (W : World), Calls P f #[.map mb] W fun e w' => e = .returned (.func (.func it) #[] #[.pointer (some ⟨W.heap.size, 0, none⟩)]) ∧ w' = W.alloc (.cells #[.map mb] T)) :
    Ct P f [.map (some b)] Mo.tt Ow.emp (X := Nat) (fun B => .func (.func it) #[] #[ptr B 0]) (fun _ => True) (fun _ => Mo.tt) (fun B => Blk B [.map (some b)] T) :=
  ⟨he, fun w hp z m _ d l k => (hc (some b) w).mono fun e w' ⟨h1, h2⟩ => ⟨_, h1, w.heap.size, rfl, trivial, by
    subst h2
    exact St.newO (A := Blk w.heap.size [.map (some b)] T) (Hp.one_self _ _) trivial l (Gr.alloc w _) (heap_alloc_new w _)⟩⟩
theorem Ct.sortedKeys {it T b B : Nat} {l : List Str} (he : ∀ (xs : Array Value) (w : World), (callFunc f xs).run P w = .ok (.enter f xs) w) (hk : P.underlying k = some .string)
    (hc : ∀ (D0 : DataW Unit) (nn : Nat) (W : World), B < W.heap.size → W.cell? ⟨B, 0, none⟩ = some (.map (some b)) → W.ownsMap P k (plainElem P e) b nn D0 → Maps.size D0 ≤ maxLen → Maps.size D0 * 16 ≤ 140737488355328 →
      Calls P f #[.func (.func it) #[] #[.pointer (some ⟨B, 0, none⟩)]] W fun en w' => ∃ (v : Value) (ss : List (List UInt8)), en = .returned v ∧ ss.Perm (strKeys D0) ∧ w'.ownsRow W.heap.size k 1 v ss.length ((ss.mergeSort (fun x y => decide (x ≤ y))).map Go.Proofs.encStr) ∧ (v = .slice none 0 0 ↔ ss = []) ∧ Below W.heap.size W w')
    (hb : l.length ≤ 4294967296) :
    Ct P f [.func (.func it) #[] #[ptr B 0]] Mo.tt (Ow.star (Blk B [.map (some b)] T) (MpK P k e b l)) (X := Sv Str) (fun q => q.val) (fun q => q.l = keysS l) (fun _ => Mo.tt) (fun q => q.own k) :=
  ⟨he, fun w hp z m hA d lh lz => by
    obtain ⟨z1, z2, doff, rfl, hB, hM⟩ := hA
    have lz2 : z2.le (wh w) := (Hp.le_join_right doff).trans lz
    have hBw : w.heap[B]? = some (.cells #[.map (some b)] T (0, 0)) := lz _ _ (Hp.le_join_left z1 z2 _ _ hB)
    obtain ⟨D, hown, hD⟩ := hM.owns lz2
    obtain ⟨es, hDe, hpw, hko⟩ := hown.entries (string_keyed hk)
    have hsz : Maps.size D ≤ l.length := by
      obtain ⟨es', clock, _, _, h3, h4⟩ := hown
      rw [h4]
      show (List.foldr DataW.insert [] (es'.toList.map (rg P k (plainElem P e)))).length ≤ _
      rw [length_sorted]
      simpa using h3
    refine (hc D l.length w (Array.getElem?_eq_some_iff.1 hBw).1 (by simp [World.cell?, hBw]) hown (by unfold maxLen; omega) (by omega)).mono fun en w' ⟨v, ss, h1, h2, h3, h4, h5⟩ => ?_
    have hcol : ∀ x, x ∈ ss ↔ x ∈ l := fun x => by
      rw [h2.mem_iff, ← hD x]
      obtain ⟨es2, hD2, hko2⟩ := hown.keysOf
      subst hD2
      rw [has_eq, List.any_eq_true]
      show x ∈ es2.map (fun p => strOf p.1) ↔ _
      rw [List.mem_map]
      constructor
      · rintro ⟨p, hp', rfl⟩
        obtain ⟨v', hv'⟩ := hko2 p hp'
        obtain ⟨a, _, ha, _⟩ := Maps.keyOf_str hk hv'
        exact ⟨p, hp', by rw [ha]; simp [Lit.sameKey, strOf]⟩
      · rintro ⟨p, hp', hs⟩
        obtain ⟨v', hv'⟩ := hko2 p hp'
        obtain ⟨a, _, ha, _⟩ := Maps.keyOf_str hk hv'
        rw [ha] at hs
        exact ⟨p, hp', by rw [ha]; simpa [Lit.sameKey, strOf] using hs⟩
    have hnd : ss.Nodup := by
      refine h2.nodup_iff.2 ?_
      obtain ⟨es2, hD2, hko2⟩ := hown.keysOf
      rw [hDe] at hD2
      obtain rfl : es = es2 := by simpa using hD2
      rw [hDe]
      show (es.map fun p => strOf p.1).Nodup
      refine List.pairwise_map.2 (hpw.imp_of_mem fun {p q} hp' hq' hne e' => hne ?_)
      obtain ⟨v1, hv1⟩ := hko2 p hp'
      obtain ⟨a, _, ha, _⟩ := Maps.keyOf_str hk hv1
      obtain ⟨v2, hv2⟩ := hko2 q hq'
      obtain ⟨b', _, hb', _⟩ := Maps.keyOf_str hk hv2
      rw [ha, hb'] at e' ⊢
      exact congrArg _ e'
    have hkeys := keysS_of hnd hcol
    rw [hkeys] at h3
    have hlk : (keysS l).length = ss.length := by rw [← hkeys]; exact (List.mergeSort_perm ss _).length_eq
    have hsz1 : Dat.sz Str = 1 := rfl
    have hfl : ∀ l : List Str, l.flatMap Dat.enc = l.map Go.Proofs.encStr := fun l => by rw [List.map_eq_flatMap]; rfl
    obtain ⟨r1, ⟨rfl, r2⟩ | ⟨g, cap, cur, rfl, r2, r3, r4, r5, r6, r7⟩⟩ := h3
    · refine ⟨_, h1, ⟨none, 0, []⟩, rfl, ?_, ?_⟩
      · show [] = keysS l
        exact (List.length_eq_zero_iff.1 (hlk.trans r2)).symm
      · have hgr := Gr.of_below h5
        refine ⟨⟨hp, Hp.nil, trivial, ⟨Nat.le_refl _, by simp [maxLen], .inl ⟨rfl, rfl⟩⟩, Hp.nil_off _, lh.trans hgr.le, (fun b p q => by cases q), Hp.le.refl hp, (fun b q => .inl q), (fun b q => absurd rfl q)⟩, fun b hb _ => hgr.block b hb, hgr.os, hgr.tape, hgr.output, hgr.size⟩
    · refine ⟨_, h1, ⟨some ⟨g, 0, none⟩, cap, keysS l⟩, by show Value.slice _ ss.length _ = Value.slice _ (keysS l).length _; rw [hlk], rfl, ?_⟩
      have hgr := Gr.of_below h5
      refine ⟨⟨hp, Hp.one g (.cells cur k (0, 0)), trivial, ⟨by rw [hlk]; exact r4, r5, .inr ⟨g, cur, rfl, Hp.one_self _ _, by rw [hsz1, r6], by rw [hsz1, hlk, hfl]; exact r7⟩⟩, fun i => ?_, lh.trans hgr.le, fun i p hp' => ?_, Hp.le.refl hp, fun i hi => .inl hi, fun i hi => .inr ?_⟩, fun i hi _ => hgr.block i hi, hgr.os, hgr.tape, hgr.output, hgr.size⟩
      · by_cases hig : i = g
        · left
          cases hq : hp i with
          | none => rfl
          | some o =>
            have := (Array.getElem?_eq_some_iff.1 (lh i o hq)).1
            omega
        · right; unfold Hp.one; rw [if_neg hig]
      · unfold Hp.one at hp'
        split at hp'
        · next q => subst q; cases hp'; exact r3
        · cases hp'
      · have : i = g := by
          unfold Hp.one at hi
          split at hi
          · assumption
          · exact absurd rfl hi
        subst this; exact r2⟩
end
end Go.V
end

section
set_option linter.unusedVariables false
namespace Go.S.Sh
open Go
def slices_Repeat0 (r : List Int) (n : Int) : Option (List Int) := gd (r = [-1] ∧ 0 ≤ n ∧ n ≤ 1048576) (some (List.replicate n.toNat (-1)))
def r11_common (a b : List Str) : Option (List (List Int)) := gd (a.length ≤ 256 ∧ b.length ≤ 256) (some ((List.range (a.length + 1)).map (P.crow a b)))
noncomputable def unicode_utf8_RuneCountInString (s_0 : Str) : Option Int :=
 none
noncomputable def unicode_utf8_decodeRuneInStringSlow (s_0 : Str) : Option (Int × Int) :=
 if (s_0.length : Int) < 1 then (some (65533, 0))
 else ((at_ s_0 0).bind (fun z18_1 =>
 none))
noncomputable def unicode_utf8_DecodeRuneInString (s_0 : Str) : Option (Int × Int) :=
 jn (fun (x10_1 : Bool) =>
 if x10_1 = true then ((at_ s_0 0).bind (fun z12_4 =>
 some ((z12_4.toNat : Int), 1)))
 else ((Sh.unicode_utf8_decodeRuneInStringSlow s_0).bind (fun y16_5 =>
 some (y16_5.1, y16_5.2)))) (fun k2 => if s_0 = [] then (k2 false)
 else ((at_ s_0 0).bind (fun z8_3 =>
 k2 (decide ((z8_3.toNat : Int) < 128)))))
noncomputable def strings_explode (s_0 : Str) (n_1 : Int) : Option (List Str) :=
 (Sh.unicode_utf8_RuneCountInString s_0).bind (fun y11_1 =>
 jn (fun (n1_2 : Int) =>
 gd ((0 : Int) ≤ n1_2 ∧ n1_2 ≤ 4294967296) (
 lt (List.replicate n1_2.toNat []) (fun y21_7 =>
 iter (fun ((s0_8, a6_9, i7_10) : Str × List Str × Int) =>
 gd (I64 (n1_2 - 1)) (
 if i7_10 < (n1_2 - 1) then ((Sh.unicode_utf8_DecodeRuneInString s0_8).bind (fun y30_11 =>
 gd ((0 : Int) ≤ y30_11.2 ∧ y30_11.2 ≤ (s0_8.length : Int)) (
 lt (s0_8.take y30_11.2.toNat) (fun y37_12 =>
 (at_ a6_9 i7_10).bind (fun z38_13 =>
 lt (a6_9.set i7_10.toNat y37_12) (fun ys6_15 =>
 gd ((0 : Int) ≤ y30_11.2 ∧ y30_11.2 ≤ (s0_8.length : Int)) (
 lt (s0_8.drop y30_11.2.toNat) (fun y41_16 =>
 gd (I64 (i7_10 + 1)) (
 go (y41_16, ys6_15, (i7_10 + 1)))))))))))
 else (up (if 0 < n1_2 then (gd (I64 (n1_2 - 1)) (
 (at_ a6_9 (n1_2 - 1)).bind (fun z48_17 =>
 lt (a6_9.set (n1_2 - 1).toNat s0_8) (fun ys5_19 =>
 some ys5_19))))
 else (some a6_9))))) (s_0, y21_7, 0)))) (fun k3 => jn (fun (x18_4 : Bool) =>
 if x18_4 = true then (k3 y11_1)
 else (k3 n_1)) (fun k5 => if n_1 < 0 then (k5 true)
 else (k5 (decide (y11_1 < n_1))))))
noncomputable def internal_stringslite_IndexByte (s_0 : Str) (c_1 : Int) : Option Int :=
 some (ixB s_0 c_1)
noncomputable def internal_stringslite_Index (s_0 : Str) (substr_1 : Str) : Option Int :=
 jn (fun (x16_1 : Bool) =>
 if x16_1 = true then (some 0)
 else (if (substr_1.length : Int) = 1 then ((at_ substr_1 0).bind (fun z29_3 =>
 (Sh.internal_stringslite_IndexByte s_0 (z29_3.toNat : Int)).bind (fun y30_4 =>
 some y30_4)))
 else (if (s_0.length : Int) ≤ (substr_1.length : Int) then (some (-1))
 else (none)))) (fun k2 => if (substr_1.length : Int) = 0 then (k2 true)
 else (k2 (decide (substr_1 = s_0))))
noncomputable def strings_Index (s_0 : Str) (substr_1 : Str) : Option Int :=
 (Sh.internal_stringslite_Index s_0 substr_1).bind (fun y7_1 =>
 some y7_1)
noncomputable def strings_Count (s_0 : Str) (substr_1 : Str) : Option Int :=
 if (substr_1.length : Int) = 0 then ((Sh.unicode_utf8_RuneCountInString s_0).bind (fun y11_1 =>
 gd (I64 (y11_1 + 1)) (
 some (y11_1 + 1))))
 else (if (substr_1.length : Int) = 1 then ((at_ substr_1 0).bind (fun z18_2 =>
 some (cntB s_0 (z18_2.toNat : Int))))
 else (iter (fun ((s0_3, n5_4) : Str × Int) =>
 (Sh.strings_Index s0_3 substr_1).bind (fun y22_5 =>
 if y22_5 = (-1) then (up (some n5_4))
 else (gd (I64 (n5_4 + 1)) (
 gd (I64 (y22_5 + (substr_1.length : Int))) (
 gd ((0 : Int) ≤ (y22_5 + (substr_1.length : Int)) ∧ (y22_5 + (substr_1.length : Int)) ≤ (s0_3.length : Int)) (
 lt (s0_3.drop (y22_5 + (substr_1.length : Int)).toNat) (fun y33_6 =>
 go (y33_6, (n5_4 + 1))))))))) (s_0, 0)))
noncomputable def strings_genSplit (s_0 : Str) (sep_1 : Str) (sepSave_2 : Int) (n_3 : Int) : Option (List Str) :=
 if n_3 = 0 then (some [])
 else (if sep_1 = [] then ((Sh.strings_explode s_0 n_3).bind (fun y18_1 =>
 some y18_1))
 else (jn (fun (n3_2 : Int) =>
 gd (I64 ((s_0.length : Int) + 1)) (
 gd ((0 : Int) ≤ (min n3_2 ((s_0.length : Int) + 1)) ∧ (min n3_2 ((s_0.length : Int) + 1)) ≤ 4294967296) (
 lt (List.replicate (min n3_2 ((s_0.length : Int) + 1)).toNat []) (fun y31_6 =>
 gd (I64 ((min n3_2 ((s_0.length : Int) + 1)) - 1)) (
 jn (fun ((s0_7, a9_8, i10_9) : Str × List Str × Int) =>
 (at_ a9_8 i10_9).bind (fun z61_20 =>
 lt (a9_8.set i10_9.toNat s0_7) (fun ys4_22 =>
 gd (I64 (i10_9 + 1)) (
 gd ((0 : Int) ≤ (i10_9 + 1) ∧ (i10_9 + 1) ≤ (ys4_22.length : Int)) (
 lt (ys4_22.take (i10_9 + 1).toNat) (fun y65_24 =>
 some y65_24)))))) (fun k10 => iter (fun ((s0_11, a9_12, i10_13) : Str × List Str × Int) =>
 if i10_13 < ((min n3_2 ((s_0.length : Int) + 1)) - 1) then ((Sh.strings_Index s0_11 sep_1).bind (fun y39_14 =>
 if y39_14 < 0 then (up (k10 (s0_11, a9_12, i10_13)))
 else (gd (I64 (y39_14 + sepSave_2)) (
 gd ((0 : Int) ≤ (y39_14 + sepSave_2) ∧ (y39_14 + sepSave_2) ≤ (s0_11.length : Int)) (
 lt (s0_11.take (y39_14 + sepSave_2).toNat) (fun y48_15 =>
 (at_ a9_12 i10_13).bind (fun z49_16 =>
 lt (a9_12.set i10_13.toNat y48_15) (fun ys8_18 =>
 gd (I64 (y39_14 + (sep_1.length : Int))) (
 gd ((0 : Int) ≤ (y39_14 + (sep_1.length : Int)) ∧ (y39_14 + (sep_1.length : Int)) ≤ (s0_11.length : Int)) (
 lt (s0_11.drop (y39_14 + (sep_1.length : Int)).toNat) (fun y55_19 =>
 gd (I64 (i10_13 + 1)) (
 go (y55_19, ys8_18, (i10_13 + 1))))))))))))))
 else (up (k10 (s0_11, a9_12, i10_13)))) (s_0, y31_6, 0))))))) (fun k3 => if n_3 < 0 then ((Sh.strings_Count s_0 sep_1).bind (fun y23_4 =>
 gd (I64 (y23_4 + 1)) (
 k3 (y23_4 + 1))))
 else (k3 n_3))))
noncomputable def strings_Split (s_0 : Str) (sep_1 : Str) : Option (List Str) :=
 (Sh.strings_genSplit s_0 sep_1 0 (-1)).bind (fun y7_1 =>
 some y7_1)
noncomputable def path_good (c_0 : Int) : Option Bool :=
 jn (fun (_ : Unit) =>
 if 97 ≤ c_0 then (if c_0 ≤ 122 then (some true)
 else (if 48 ≤ c_0 then (some (decide (c_0 ≤ 57)))
 else (some false)))
 else (if 48 ≤ c_0 then (some (decide (c_0 ≤ 57)))
 else (some false))) (fun k1 => jn (fun (_ : Unit) =>
 some true) (fun k2 => if c_0 = 46 then (k2 ())
 else (if c_0 = 45 then (k2 ())
 else (if c_0 = 95 then (k2 ())
 else (k1 ())))))
noncomputable def path_part (s_0 : Str) : Option Bool :=
 jn (fun (x14_1 : Bool) =>
 if x14_1 = true then (some false)
 else (gd (s_0.length ≤ 4294967296) (
 lt s_0 (fun y16_4 =>
 iter (fun (x18_5 : Int) =>
 if x18_5 < (y16_4.length : Int) then ((at_ y16_4 x18_5).bind (fun z20_6 =>
 (Sh.path_good (z20_6.toNat : Int)).bind (fun y23_7 =>
 if (!y23_7) = true then (up (some false))
 else (gd (I64 (x18_5 + 1)) (
 go (x18_5 + 1))))))
 else (up (some true))) 0)))) (fun k2 => if s_0 = [] then (k2 true)
 else (if s_0 = [46] then (k2 true)
 else (k2 (decide (s_0 = [46, 46])))))
noncomputable def path_Check (p_0 : Str) : Option Int :=
 if 64 < (p_0.length : Int) then (some 4)
 else ((Sh.strings_Split p_0 [47]).bind (fun y9_1 =>
 iter (fun (x11_2 : Int) =>
 if x11_2 < (y9_1.length : Int) then ((at_ y9_1 x11_2).bind (fun z13_3 =>
 (Sh.path_part z13_3).bind (fun y16_4 =>
 if (!y16_4) = true then (up (some 5))
 else (gd (I64 (x11_2 + 1)) (
 go (x11_2 + 1))))))
 else (up (some 0))) 0))
noncomputable def cmp_isNaN_string (x_0 : Str) : Option Bool :=
 some (!decide (x_0 = x_0))
noncomputable def cmp_Compare_string (x_0 : Str) (y_1 : Str) : Option Int :=
 (Sh.cmp_isNaN_string x_0).bind (fun y8_1 =>
 (Sh.cmp_isNaN_string y_1).bind (fun y10_2 =>
 if y8_1 = true then (if y10_2 = true then (some 0)
 else (some (-1)))
 else (if y10_2 = true then (some 1)
 else (if (Op.bytesLess x_0 y_1) = true then (some (-1))
 else (if (!(Op.bytesLess x_0 y_1 || decide (x_0 = y_1))) = true then (some 1)
 else (some 0))))))
noncomputable def path_Compare (a_0 : Str) (b_1 : Str) : Option Int :=
 (Sh.cmp_Compare_string a_0 b_1).bind (fun y7_1 =>
 some y7_1)
noncomputable def internal_stringslite_HasPrefix (s_0 : Str) (prefix_1 : Str) : Option Bool :=
 if (prefix_1.length : Int) ≤ (s_0.length : Int) then (gd ((0 : Int) ≤ (prefix_1.length : Int) ∧ (prefix_1.length : Int) ≤ (s_0.length : Int)) (
 lt (s_0.take (prefix_1.length : Int).toNat) (fun y14_1 =>
 some (decide (y14_1 = prefix_1)))))
 else (some false)
noncomputable def strings_HasPrefix (s_0 : Str) (prefix_1 : Str) : Option Bool :=
 (Sh.internal_stringslite_HasPrefix s_0 prefix_1).bind (fun y7_1 =>
 some y7_1)
noncomputable def path_Under (p_0 : Str) (dir_1 : Str) : Option Bool :=
 if dir_1 = [] then (some (!decide (p_0 = [])))
 else (gd (I64 ((dir_1.length : Int) + 1)) (
 if ((dir_1.length : Int) + 1) < (p_0.length : Int) then (gd (dir_1.length + [47].length ≤ 9223372036854775807) (
 lt (dir_1 ++ [47]) (fun y18_1 =>
 (Sh.strings_HasPrefix p_0 y18_1).bind (fun y19_2 =>
 some y19_2))))
 else (some false)))
noncomputable def path_Clash (a_0 : Str) (b_1 : Str) : Option Bool :=
 if a_0 = [] then (some false)
 else (if b_1 = [] then (some false)
 else ((Sh.path_Under a_0 b_1).bind (fun y14_1 =>
 if y14_1 = true then (some true)
 else ((Sh.path_Under b_1 a_0).bind (fun y18_2 =>
 some y18_2)))))
noncomputable def files_Row_wrong_1 (g_0 : FilesFile) (a_1 : FilesFile) : Option Bool :=
 (Sh.path_Clash g_0.path a_1.path).bind (fun y8_2 =>
 some y8_2)
noncomputable def slices_IndexFunc_files_Row_files_File (s_0 : List FilesFile) (f_1_0 : FilesFile) : Option Int :=
 iter (fun (x8_1 : Int) =>
 if x8_1 < (s_0.length : Int) then ((at_ s_0 x8_1).bind (fun z14_2 =>
 (Sh.files_Row_wrong_1 z14_2 f_1_0).bind (fun y16_3 =>
 if y16_3 = true then (up (some x8_1))
 else (gd (I64 (x8_1 + 1)) (
 go (x8_1 + 1))))))
 else (up (some (-1)))) 0
noncomputable def slices_ContainsFunc_files_Row_files_File (s_0 : List FilesFile) (f_1_0 : FilesFile) : Option Bool :=
 (Sh.slices_IndexFunc_files_Row_files_File s_0 f_1_0).bind (fun y7_1 =>
 some (decide (0 ≤ y7_1)))
noncomputable def files_Row_wrong (r_0 : List FilesFile) (i_1 : Int) : Option Int :=
 (at_ r_0 i_1).bind (fun z9_1 =>
 (Sh.path_Check z9_1.path).bind (fun y13_3 =>
 if y13_3 = 0 then (jn (fun (x17_4 : Bool) =>
 if x17_4 = true then (some 1)
 else (if 4096 < (z9_1.data.length : Int) then (some 4)
 else (jn (fun (x31_6 : Bool) =>
 if x31_6 = true then (some 6)
 else (gd ((0 : Int) ≤ i_1 ∧ i_1 ≤ (r_0.length : Int)) (
 lt (r_0.take i_1.toNat) (fun y49_11 =>
 (Sh.slices_ContainsFunc_files_Row_files_File y49_11 z9_1).bind (fun y51_12 =>
 if y51_12 = true then (some 11)
 else (some 0)))))) (fun k7 => if 0 < i_1 then (gd (I64 (i_1 - 1)) (
 (at_ r_0 (i_1 - 1)).bind (fun z38_8 =>
 (Sh.path_Compare z38_8.path z9_1.path).bind (fun y43_9 =>
 k7 (decide (0 ≤ y43_9))))))
 else (k7 false))))) (fun k5 => if z9_1.mode = 1 then (k5 false)
 else (k5 (!decide (z9_1.mode = 2)))))
 else (some y13_3)))
noncomputable def files_Row_Check (r_0 : List FilesFile) : Option Err :=
 if 64 < (r_0.length : Int) then (some (Err.fault [102, 105, 108, 101] 64 (Err.no 4)))
 else (iter (fun (x14_2 : Int) =>
 if x14_2 < (r_0.length : Int) then ((Sh.files_Row_wrong r_0 x14_2).bind (fun y19_3 =>
 if y19_3 = 0 then (gd (I64 (x14_2 + 1)) (
 go (x14_2 + 1)))
 else (up (some (Err.fault [102, 105, 108, 101] x14_2 (Err.no y19_3))))))
 else (up (some Err.nil))) 0)
noncomputable def slices_Clip_string_string (s_0 : List Str) : Option (List Str) :=
 gd ((0 : Int) ≤ (s_0.length : Int) ∧ (s_0.length : Int) ≤ (s_0.length : Int)) (
 lt (s_0.take (s_0.length : Int).toNat) (fun y8_2 =>
 some y8_2))
noncomputable def files_Paths (l_0 : List (List FilesFile)) : Option (List Str) :=
 iter (fun ((x11_2, acc_3) : Int × List Str) =>
 if x11_2 < (l_0.length : Int) then ((at_ l_0 x11_2).bind (fun z13_4 =>
 iter (fun ((x17_5, acc_6) : Int × List Str) =>
 if x17_5 < (z13_4.length : Int) then ((at_ z13_4 x17_5).bind (fun z19_7 =>
 gd (acc_6.length ≤ 4294967296 ∧ z19_7.path.length ≤ 4294967296) (
 lt (z19_7.path :: acc_6) (fun accs3_9 =>
 gd (I64 (x17_5 + 1)) (
 go ((x17_5 + 1), accs3_9))))))
 else (up (gd (I64 (x11_2 + 1)) (
 go ((x11_2 + 1), acc_6))))) (0, acc_3)))
 else (up (gd (acc_3.length ≤ 4294967296) (
 lt (keysS acc_3) (fun y28_12 =>
 (Sh.slices_Clip_string_string y28_12).bind (fun y29_13 =>
 some y29_13)))))) (0, ([] : List Str))
noncomputable def files_Row_find_1 (f_0 : FilesFile) (p_1 : Str) : Option Int :=
 (Sh.path_Compare f_0.path p_1).bind (fun y8_2 =>
 some y8_2)
noncomputable def slices_BinarySearchFunc_files_Row_files_File_string (x_0 : List FilesFile) (target_1 : Str) : Option (Int × Bool) :=
 iter (fun ((i9_1, j10_2) : Int × Int) =>
 if i9_1 < j10_2 then (gd (I64 (i9_1 + j10_2)) (
 (at_ x_0 (IntKind.wrap .i64 (sHr .u64 (IntKind.wrap .u64 (i9_1 + j10_2)) 1))).bind (fun z27_3 =>
 (Sh.files_Row_find_1 z27_3 target_1).bind (fun y30_4 =>
 if y30_4 < 0 then (gd (I64 ((IntKind.wrap .i64 (sHr .u64 (IntKind.wrap .u64 (i9_1 + j10_2)) 1)) + 1)) (
 go (((IntKind.wrap .i64 (sHr .u64 (IntKind.wrap .u64 (i9_1 + j10_2)) 1)) + 1), j10_2)))
 else (go (i9_1, (IntKind.wrap .i64 (sHr .u64 (IntKind.wrap .u64 (i9_1 + j10_2)) 1))))))))
 else (up (if i9_1 < (x_0.length : Int) then ((at_ x_0 i9_1).bind (fun z43_5 =>
 (Sh.files_Row_find_1 z43_5 target_1).bind (fun y46_6 =>
 some (i9_1, (decide (y46_6 = 0))))))
 else (some (i9_1, false))))) (0, (x_0.length : Int))
noncomputable def files_Row_find (r_0 : List FilesFile) (p_1 : Str) : Option (Int × Bool) :=
 (Sh.slices_BinarySearchFunc_files_Row_files_File_string r_0 p_1).bind (fun y8_1 =>
 some (y8_1.1, y8_1.2))
noncomputable def files_Row_Get (r_0 : List FilesFile) (p_1 : Str) : Option (FilesFile × Bool) :=
 (Sh.files_Row_find r_0 p_1).bind (fun y11_2 =>
 if (!y11_2.2) = true then (some (⟨[], 0, []⟩, false))
 else ((at_ r_0 y11_2.1).bind (fun z19_3 =>
 some (⟨z19_3.path, z19_3.mode, z19_3.data⟩, true))))
noncomputable def tmerge_of (r_0 : List FilesFile) (p_1 : Str) : Option TmergeOne :=
 (Sh.files_Row_Get r_0 p_1).bind (fun y10_2 =>
 some ⟨y10_2.1.path, y10_2.1.mode, y10_2.1.data, y10_2.2⟩)
noncomputable def tmerge_mode (base_0 : TmergeOne) (ours_1 : TmergeOne) (theirs_2 : TmergeOne) : Option Int :=
 jn (fun (x17_4 : Bool) =>
 if x17_4 = true then (some theirs_2.file_mode)
 else (some ours_1.file_mode)) (fun k5 => if base_0.is = true then (k5 (decide (base_0.file_mode = ours_1.file_mode)))
 else (k5 false))
noncomputable def lines_Split (s_0 : Str) : Option (List Str) :=
 iter (fun ((s0_1, out3_2) : Str × List Str) =>
 if s0_1 = [] then (up ((Sh.slices_Clip_string_string out3_2).bind (fun y26_12 =>
 some y26_12)))
 else ((Sh.strings_Index s0_1 [10]).bind (fun y8_3 =>
 jn (fun (i4_4 : Int) =>
 gd (I64 (i4_4 + 1)) (
 gd ((0 : Int) ≤ (i4_4 + 1) ∧ (i4_4 + 1) ≤ (s0_1.length : Int)) (
 lt (s0_1.take (i4_4 + 1).toNat) (fun y18_6 =>
 lt [y18_6] (fun y19_8 =>
 gd (out3_2.length + y19_8.length ≤ 4294967296) (
 lt (out3_2 ++ y19_8) (fun y20_10 =>
 gd (I64 (i4_4 + 1)) (
 gd ((0 : Int) ≤ (i4_4 + 1) ∧ (i4_4 + 1) ≤ (s0_1.length : Int)) (
 lt (s0_1.drop (i4_4 + 1).toNat) (fun y24_11 =>
 go (y24_11, y20_10))))))))))) (fun k5 => if y8_3 < 0 then (gd (I64 ((s0_1.length : Int) - 1)) (
 k5 ((s0_1.length : Int) - 1)))
 else (k5 y8_3))))) (s_0, [])
noncomputable def diff_made (a_0 : List Str) (a_1 : List Str) : Option ((Unit × Err) ⊕ (DiffTableP × Unit)) :=
 if 256 < (a_0.length : Int) then (some (.inl ((), (Err.fault [108, 105, 110, 101, 115] 0 (Err.no 4)))))
 else (if 256 < (a_1.length : Int) then (some (.inl ((), (Err.fault [108, 105, 110, 101, 115] 1 (Err.no 4)))))
 else (gd (I64 ((a_0.length : Int) + 1)) (
 gd (I64 ((a_1.length : Int) + 1)) (
 gd (I64 (((a_0.length : Int) + 1) * ((a_1.length : Int) + 1))) (
 gd ((0 : Int) ≤ (((a_0.length : Int) + 1) * ((a_1.length : Int) + 1)) ∧ (((a_0.length : Int) + 1) * ((a_1.length : Int) + 1)) ≤ 4294967296) (
 lt (List.replicate (((a_0.length : Int) + 1) * ((a_1.length : Int) + 1)).toNat 0) (fun y33_4 =>
 gd (I64 ((a_0.length : Int) - 1)) (
 iter (fun (x7_6 : Int) =>
 if 0 ≤ x7_6 then (gd (I64 ((a_1.length : Int) - 1)) (
 iter (fun (_ : Unit) =>
 if 0 ≤ ((a_1.length : Int) - 1) then (gd (I64 (x7_6 + 1)) (
 none))
 else (up (gd (I64 (x7_6 - 1)) (
 go (x7_6 - 1))))) ()))
 else (up (some (.inr (⟨a_0, a_1, y33_4⟩, ()))))) ((a_0.length : Int) - 1)))))))))
noncomputable def slices_Clip_diff_Edit_diff_Edit (s_0 : List DiffEdit) : Option (List DiffEdit) :=
 gd ((0 : Int) ≤ (s_0.length : Int) ∧ (s_0.length : Int) ≤ (s_0.length : Int)) (
 lt (s_0.take (s_0.length : Int).toNat) (fun y8_2 =>
 some y8_2))
noncomputable def diff_Lines (a_0 : List Str) (a_1 : List Str) : Option (List DiffEdit × Err) :=
 (Sh.diff_made a_0 a_1).bind (fun y16_1 =>
 (match y16_1 with
 | .inl y16_1 => (if y16_1.2.isNil = true then (jn (fun (_ : Unit) =>
 (Sh.slices_Clip_diff_Edit_diff_Edit []).bind (fun y64_4 =>
 some (y64_4, Err.nil))) (fun k2 => iter (fun (_ : Unit) =>
 jn (fun (_ : Unit) =>
 none) (fun k3 => if 0 < (a_0.length : Int) then (k3 ())
 else (if 0 < (a_1.length : Int) then (k3 ())
 else (up (k2 ()))))) ()))
 else (some ([], y16_1.2)))
 | .inr y16_1 => (jn (fun (_ : Unit) =>
 (Sh.slices_Clip_diff_Edit_diff_Edit []).bind (fun y64_7 =>
 some (y64_7, Err.nil))) (fun k5 => iter (fun (_ : Unit) =>
 jn (fun (_ : Unit) =>
 none) (fun k6 => if 0 < (a_0.length : Int) then (k6 ())
 else (if 0 < (a_1.length : Int) then (k6 ())
 else (up (k5 ()))))) ()))))
noncomputable def slices_Clip_diff_Match_diff_Match (s_0 : List DiffMatch) : Option (List DiffMatch) :=
 gd ((0 : Int) ≤ (s_0.length : Int) ∧ (s_0.length : Int) ≤ (s_0.length : Int)) (
 lt (s_0.take (s_0.length : Int).toNat) (fun y8_2 =>
 some y8_2))
noncomputable def diff_Matches (a_0 : List Str) (a_1 : List Str) : Option (List DiffMatch × Err) :=
 (Sh.diff_Lines a_0 a_1).bind (fun y17_1 =>
 if y17_1.2.isNil = true then (iter (fun ((x8_2, x9_3, x10_4, x11_5, x25_6) : List DiffMatch × Int × Int × Bool × Int) =>
 if x25_6 < (y17_1.1.length : Int) then ((at_ y17_1.1 x25_6).bind (fun z27_7 =>
 jn (fun (x8_9 : List DiffMatch) =>
 jn (fun (x9_21 : Int) =>
 if z27_7.op = 2 then (gd (I64 (x25_6 + 1)) (
 go (x8_9, x9_21, x10_4, (decide (z27_7.op = 1)), (x25_6 + 1))))
 else (gd (I64 (x10_4 + 1)) (
 gd (I64 (x25_6 + 1)) (
 go (x8_9, x9_21, (x10_4 + 1), (decide (z27_7.op = 1)), (x25_6 + 1)))))) (fun k22 => if z27_7.op = 3 then (k22 x9_3)
 else (gd (I64 (x9_3 + 1)) (
 k22 (x9_3 + 1))))) (fun k10 => if z27_7.op = 1 then (jn (fun (x8_11 : List DiffMatch) =>
 gd (I64 ((x8_11.length : Int) - 1)) (
 (at_ x8_11 ((x8_11.length : Int) - 1)).bind (fun z44_17 =>
 gd (I64 (z44_17.n + 1)) (
 (at_ x8_11 ((x8_11.length : Int) - 1)).bind (fun z48_18 =>
 lt (x8_11.set ((x8_11.length : Int) - 1).toNat ⟨z48_18.a, z48_18.b, (z44_17.n + 1)⟩) (fun ys10_20 =>
 k10 ys10_20)))))) (fun k12 => if (!x11_5) = true then (lt [⟨x9_3, x10_4, 0⟩] (fun y38_14 =>
 gd (x8_2.length + y38_14.length ≤ 4294967296) (
 lt (x8_2 ++ y38_14) (fun y39_16 =>
 k12 y39_16))))
 else (k12 x8_2)))
 else (k10 x8_2))))
 else (up ((Sh.slices_Clip_diff_Match_diff_Match x8_2).bind (fun y65_23 =>
 some (y65_23, Err.nil))))) ([], 0, 0, false, 0))
 else (some ([], y17_1.2)))
noncomputable def merge_places0 (base_0 : List Str) (other_1 : List Str) : Option (List Int × Err) :=
 (Sh.diff_Matches base_0 other_1).bind (fun y15_1 =>
 if y15_1.2.isNil = true then (lt [(-1)] (fun y21_3 =>
 (Sh.slices_Repeat0 y21_3 (base_0.length : Int)).bind (fun y24_4 =>
 iter (fun ((out8_5, x27_6) : List Int × Int) =>
 if x27_6 < (y15_1.1.length : Int) then ((at_ y15_1.1 x27_6).bind (fun z29_7 =>
 iter (fun ((out8_9, x33_10) : List Int × Int) =>
 if x33_10 < z29_7.n then (gd (I64 (z29_7.a + x33_10)) (
 gd (I64 (z29_7.b + x33_10)) (
 (at_ out8_9 (z29_7.a + x33_10)).bind (fun z45_11 =>
 lt (out8_9.set (z29_7.a + x33_10).toNat (z29_7.b + x33_10)) (fun ys10_13 =>
 gd (I64 (x33_10 + 1)) (
 go (ys10_13, (x33_10 + 1))))))))
 else (up (gd (I64 (x27_6 + 1)) (
 go (out8_9, (x27_6 + 1)))))) (out8_5, 0)))
 else (up (some (out8_5, Err.nil)))) (y24_4, 0))))
 else (some ([], y15_1.2)))
noncomputable def merge_places (base_0 : List Str) (other_1 : List Str) : Option (List Int × Err) := if base_0.length ≤ 256 ∧ other_1.length ≤ 256 then some (P.places base_0 other_1, Err.nil) else Sh.merge_places0 base_0 other_1
noncomputable def merge_Chunks0 (a_0 : List Str) (a_1 : List Str) (a_2 : List Str) : Option (List P.Chunk × Err) :=
 (Sh.merge_places a_0 a_1).bind (fun y18_1 =>
 if y18_1.2.isNil = true then ((Sh.merge_places a_0 a_2).bind (fun y27_2 =>
 if y27_2.2.isNil = true then (iter (fun (x40_4 : Int) =>
 if x40_4 < (a_0.length : Int) then (jn (fun (x54_5 : Bool) =>
 if x54_5 = true then ((at_ y18_1.1 x40_4).bind (fun z59_9 =>
 (at_ y27_2.1 x40_4).bind (fun z63_10 =>
 none)))
 else (gd (I64 (x40_4 + 1)) (
 go (x40_4 + 1)))) (fun k6 => (at_ y18_1.1 x40_4).bind (fun z45_7 =>
 if 0 ≤ z45_7 then ((at_ y27_2.1 x40_4).bind (fun z51_8 =>
 k6 (decide (0 ≤ z51_8))))
 else (k6 false))))
 else (up (none))) 0)
 else (some ([], y27_2.2))))
 else (some ([], y18_1.2)))
noncomputable def merge_Chunks (a_0 : List Str) (a_1 : List Str) (a_2 : List Str) : Option (List P.Chunk × Err) := if a_0.length ≤ 256 ∧ a_1.length ≤ 256 ∧ a_2.length ≤ 256 then some (P.chunks a_0 a_1 a_2, Err.nil) else Sh.merge_Chunks0 a_0 a_1 a_2
noncomputable def lines_Join (l_0 : List Str) : Option Str :=
 gd (l_0.length ≤ 4294967296 ∧ (joinS l_0 []).length ≤ 4294967296) (
 lt (joinS l_0 []) (fun y4_1 =>
 some y4_1))
noncomputable def internal_stringslite_HasSuffix (s_0 : Str) (suffix_1 : Str) : Option Bool :=
 if (suffix_1.length : Int) ≤ (s_0.length : Int) then (gd (I64 ((s_0.length : Int) - (suffix_1.length : Int))) (
 gd ((0 : Int) ≤ ((s_0.length : Int) - (suffix_1.length : Int)) ∧ ((s_0.length : Int) - (suffix_1.length : Int)) ≤ (s_0.length : Int)) (
 lt (s_0.drop ((s_0.length : Int) - (suffix_1.length : Int)).toNat) (fun y17_1 =>
 some (decide (y17_1 = suffix_1))))))
 else (some false)
noncomputable def strings_HasSuffix (s_0 : Str) (suffix_1 : Str) : Option Bool :=
 (Sh.internal_stringslite_HasSuffix s_0 suffix_1).bind (fun y7_1 =>
 some y7_1)
noncomputable def lines_Whole (s_0 : Str) : Option Bool :=
 if s_0 = [] then (some true)
 else ((Sh.strings_HasSuffix s_0 [10]).bind (fun y7_1 =>
 some y7_1))
noncomputable def merge_closed (l_0 : List Str) : Option Str :=
 (Sh.lines_Join l_0).bind (fun y5_1 =>
 (Sh.lines_Whole y5_1).bind (fun y7_2 =>
 if (!y7_2) = true then (gd (y5_1.length + [10].length ≤ 9223372036854775807) (
 lt (y5_1 ++ [10]) (fun y10_3 =>
 some y10_3)))
 else (some y5_1)))
noncomputable def merge_clash (c_0 : P.Chunk) (a_1 : Str) (b_2 : Str) : Option Str :=
 gd ([60, 60, 60, 60, 60, 60, 60, 32].length + a_1.length ≤ 9223372036854775807) (
 lt ([60, 60, 60, 60, 60, 60, 60, 32] ++ a_1) (fun y8_2 =>
 gd (y8_2.length + [10].length ≤ 9223372036854775807) (
 lt (y8_2 ++ [10]) (fun y9_3 =>
 (Sh.merge_closed c_0.ours).bind (fun y12_4 =>
 gd (y9_3.length + y12_4.length ≤ 9223372036854775807) (
 lt (y9_3 ++ y12_4) (fun y13_5 =>
 gd (y13_5.length + [61, 61, 61, 61, 61, 61, 61, 10].length ≤ 9223372036854775807) (
 lt (y13_5 ++ [61, 61, 61, 61, 61, 61, 61, 10]) (fun y14_6 =>
 (Sh.merge_closed c_0.theirs).bind (fun y17_7 =>
 gd (y14_6.length + y17_7.length ≤ 9223372036854775807) (
 lt (y14_6 ++ y17_7) (fun y18_8 =>
 gd (y18_8.length + [62, 62, 62, 62, 62, 62, 62, 32].length ≤ 9223372036854775807) (
 lt (y18_8 ++ [62, 62, 62, 62, 62, 62, 62, 32]) (fun y19_9 =>
 gd (y19_9.length + b_2.length ≤ 9223372036854775807) (
 lt (y19_9 ++ b_2) (fun y21_10 =>
 gd (y21_10.length + [10].length ≤ 9223372036854775807) (
 lt (y21_10 ++ [10]) (fun y22_11 =>
 some y22_11))))))))))))))))))
noncomputable def merge_Text (base_0 : Str) (ours_1 : Str) (theirs_2 : Str) (a_3 : Str) (b_4 : Str) : Option (Str × Int × Err) :=
 (Sh.lines_Split base_0).bind (fun y21_1 =>
 (Sh.lines_Split ours_1).bind (fun y23_2 =>
 (Sh.lines_Split theirs_2).bind (fun y25_3 =>
 (Sh.merge_Chunks y21_1 y23_2 y25_3).bind (fun y26_4 =>
 if y26_4.2.isNil = true then (iter (fun ((n16_6, x34_7, acc_8) : Int × Int × Str) =>
 if x34_7 < (y26_4.1.length : Int) then ((at_ y26_4.1 x34_7).bind (fun z36_9 =>
 if z36_9.clash = true then (gd (I64 (n16_6 + 1)) (
 (Sh.merge_clash z36_9 a_3 b_4).bind (fun y45_11 =>
 gd (acc_8.length + y45_11.length ≤ 4294967296) (
 lt (acc_8 ++ y45_11) (fun acc46_12 =>
 gd (I64 (x34_7 + 1)) (
 go ((n16_6 + 1), (x34_7 + 1), acc46_12)))))))
 else ((Sh.lines_Join z36_9.out).bind (fun y49_13 =>
 gd (acc_8.length + y49_13.length ≤ 4294967296) (
 lt (acc_8 ++ y49_13) (fun acc50_14 =>
 gd (I64 (x34_7 + 1)) (
 go (n16_6, (x34_7 + 1), acc50_14))))))))
 else (up (some (acc_8, n16_6, Err.nil)))) (0, 0, []))
 else (some ([], 0, y26_4.2))))))
noncomputable def tmerge_both (base_0 : TmergeOne) (ours_1 : TmergeOne) (theirs_2 : TmergeOne) (a_3 : Str) (b_4 : Str) : Option (FilesFile × Bool) :=
 (Sh.tmerge_mode base_0 ours_1 theirs_2).bind (fun y22_5 =>
 jn (fun (x27_7 : Bool) =>
 if x27_7 = true then (some (⟨ours_1.file_path, y22_5, ours_1.file_data⟩, false))
 else (jn (fun (x49_9 : Bool) =>
 if x49_9 = true then (some (⟨ours_1.file_path, y22_5, theirs_2.file_data⟩, false))
 else ((Sh.merge_Text base_0.file_data ours_1.file_data theirs_2.file_data a_3 b_4).bind (fun y78_11 =>
 jn (fun (x88_12 : Bool) =>
 if x88_12 = true then (some (⟨ours_1.file_path, y22_5, ours_1.file_data⟩, true))
 else (some (⟨ours_1.file_path, y22_5, y78_11.1⟩, (decide (0 < y78_11.2.1))))) (fun k13 => if y78_11.2.2.isNil = true then (k13 (decide (4096 < (y78_11.1.length : Int))))
 else (k13 true))))) (fun k10 => if base_0.is = true then (k10 (decide (ours_1.file_data = base_0.file_data)))
 else (k10 false)))) (fun k8 => if ours_1.file_data = theirs_2.file_data then (k8 true)
 else (if base_0.is = true then (k8 (decide (theirs_2.file_data = base_0.file_data)))
 else (k8 false))))
noncomputable def tmerge_One (p_0 : Str) (base_1 : List FilesFile) (ours_2 : List FilesFile) (theirs_3 : List FilesFile) (a_4 : Str) (b_5 : Str) : Option (FilesFile × Bool × Bool) :=
 (Sh.tmerge_of base_1 p_0).bind (fun y20_2 =>
 (Sh.tmerge_of ours_2 p_0).bind (fun y23_3 =>
 (Sh.tmerge_of theirs_3 p_0).bind (fun y26_4 =>
 jn (fun (x27_8 : Bool) =>
 if x27_8 = true then (some (⟨y23_3.file_path, y23_3.file_mode, y23_3.file_data⟩, y23_3.is, false))
 else (if y20_2.file_path = y23_3.file_path ∧ y20_2.file_mode = y23_3.file_mode ∧ y20_2.file_data = y23_3.file_data ∧ y20_2.is = y23_3.is then (some (⟨y26_4.file_path, y26_4.file_mode, y26_4.file_data⟩, y26_4.is, false))
 else (jn (fun (x48_10 : Bool) =>
 if x48_10 = true then ((Sh.tmerge_both y20_2 y23_3 y26_4 a_4 b_5).bind (fun y61_12 =>
 some (⟨y61_12.1.path, y61_12.1.mode, y61_12.1.data⟩, true, y61_12.2)))
 else (if y23_3.is = true then (some (⟨y23_3.file_path, y23_3.file_mode, y23_3.file_data⟩, true, true))
 else (some (⟨y26_4.file_path, y26_4.file_mode, y26_4.file_data⟩, true, true)))) (fun k11 => if y23_3.is = true then (k11 y26_4.is)
 else (k11 false))))) (fun k9 => if y23_3.file_path = y26_4.file_path ∧ y23_3.file_mode = y26_4.file_mode ∧ y23_3.file_data = y26_4.file_data ∧ y23_3.is = y26_4.is then (k9 true)
 else (k9 (decide (y20_2.file_path = y26_4.file_path ∧ y20_2.file_mode = y26_4.file_mode ∧ y20_2.file_data = y26_4.file_data ∧ y20_2.is = y26_4.is)))))))
noncomputable def tmerge_stages (p_0 : Str) (rows_1 : List (List FilesFile)) : Option (List IndexEntry) :=
 iter (fun ((out5_1, x12_2) : List IndexEntry × Int) =>
 if x12_2 < (rows_1.length : Int) then ((at_ rows_1 x12_2).bind (fun z15_3 =>
 (Sh.files_Row_Get z15_3 p_0).bind (fun y20_4 =>
 if y20_4.2 = true then (gd (I64 (x12_2 + 1)) (
 lt [⟨p_0, (x12_2 + 1), y20_4.1.mode, y20_4.1.data, 0, 0⟩] (fun y33_7 =>
 gd (out5_1.length + y33_7.length ≤ 4294967296) (
 lt (out5_1 ++ y33_7) (fun y34_9 =>
 gd (I64 (x12_2 + 1)) (
 go (y34_9, (x12_2 + 1))))))))
 else (gd (I64 (x12_2 + 1)) (
 go (out5_1, (x12_2 + 1)))))))
 else (up (some out5_1))) ([], 0)
noncomputable def tmerge_fault_1 (g_0 : FilesFile) (a_1 : FilesFile) : Option Bool :=
 (Sh.path_Clash g_0.path a_1.path).bind (fun y8_2 =>
 some y8_2)
noncomputable def slices_IndexFunc_files_Row_files_File_v2 (s_0 : List FilesFile) (f_1_0 : FilesFile) : Option Int :=
 iter (fun (x8_1 : Int) =>
 if x8_1 < (s_0.length : Int) then ((at_ s_0 x8_1).bind (fun z14_2 =>
 (Sh.tmerge_fault_1 z14_2 f_1_0).bind (fun y16_3 =>
 if y16_3 = true then (up (some x8_1))
 else (gd (I64 (x8_1 + 1)) (
 go (x8_1 + 1))))))
 else (up (some (-1)))) 0
noncomputable def slices_ContainsFunc_files_Row_files_File_v2 (s_0 : List FilesFile) (f_1_0 : FilesFile) : Option Bool :=
 (Sh.slices_IndexFunc_files_Row_files_File_v2 s_0 f_1_0).bind (fun y7_1 =>
 some (decide (0 ≤ y7_1)))
noncomputable def tmerge_fault (r_0 : List FilesFile) : Option Err :=
 if 64 < (r_0.length : Int) then (some (Err.fault [102, 105, 108, 101] 64 (Err.no 4)))
 else (iter (fun (x14_2 : Int) =>
 if x14_2 < (r_0.length : Int) then ((at_ r_0 x14_2).bind (fun z17_3 =>
 gd ((0 : Int) ≤ x14_2 ∧ x14_2 ≤ (r_0.length : Int)) (
 lt (r_0.take x14_2.toNat) (fun y21_6 =>
 (Sh.slices_ContainsFunc_files_Row_files_File_v2 y21_6 z17_3).bind (fun y23_7 =>
 if y23_7 = true then (up (some (Err.fault [102, 105, 108, 101] x14_2 (Err.no 11))))
 else (gd (I64 (x14_2 + 1)) (
 go (x14_2 + 1))))))))
 else (up (some Err.nil))) 0)
noncomputable def slices_Clip_files_Row_files_File (s_0 : List FilesFile) : Option (List FilesFile) :=
 gd ((0 : Int) ≤ (s_0.length : Int) ∧ (s_0.length : Int) ≤ (s_0.length : Int)) (
 lt (s_0.take (s_0.length : Int).toNat) (fun y8_2 =>
 some y8_2))
noncomputable def slices_Clip_index_Entry_index_Entry (s_0 : List IndexEntry) : Option (List IndexEntry) :=
 gd ((0 : Int) ≤ (s_0.length : Int) ∧ (s_0.length : Int) ≤ (s_0.length : Int)) (
 lt (s_0.take (s_0.length : Int).toNat) (fun y8_2 =>
 some y8_2))
noncomputable def tmerge_Merge (base_0 : List FilesFile) (ours_1 : List FilesFile) (theirs_2 : List FilesFile) (a_3 : Str) (b_4 : Str) : Option (TmergeResultP × Err) :=
 lt [base_0, ours_1, theirs_2] (fun y25_3 =>
 iter (fun (x27_4 : Int) =>
 if x27_4 < (y25_3.length : Int) then ((at_ y25_3 x27_4).bind (fun z29_5 =>
 (Sh.files_Row_Check z29_5).bind (fun y32_6 =>
 if y32_6.isNil = true then (gd (I64 (x27_4 + 1)) (
 go (x27_4 + 1)))
 else (up (some (⟨[], [], []⟩, y32_6))))))
 else (up (lt [base_0, ours_1, theirs_2] (fun y41_9 =>
 (Sh.files_Paths y41_9).bind (fun y42_10 =>
 iter (fun ((x44_11, c0_12, c1_13, c2_14) : Int × List FilesFile × List IndexEntry × List Str) =>
 if x44_11 < (y42_10.length : Int) then ((at_ y42_10 x44_11).bind (fun z46_15 =>
 (Sh.tmerge_One z46_15 base_0 ours_1 theirs_2 a_3 b_4).bind (fun y55_16 =>
 jn (fun (c0_18 : List FilesFile) =>
 if y55_16.2.2 = true then (lt [z46_15] (fun y70_25 =>
 gd (c2_14.length + y70_25.length ≤ 4294967296) (
 lt (c2_14 ++ y70_25) (fun y71_27 =>
 lt [base_0, ours_1, theirs_2] (fun y79_29 =>
 (Sh.tmerge_stages z46_15 y79_29).bind (fun y80_30 =>
 gd (c1_13.length + y80_30.length ≤ 4294967296) (
 lt (c1_13 ++ y80_30) (fun y81_32 =>
 gd (I64 (x44_11 + 1)) (
 go ((x44_11 + 1), c0_18, y81_32, y71_27))))))))))
 else (gd (I64 (x44_11 + 1)) (
 go ((x44_11 + 1), c0_18, c1_13, c2_14)))) (fun k19 => if y55_16.2.1 = true then (lt [⟨y55_16.1.path, y55_16.1.mode, y55_16.1.data⟩] (fun y63_21 =>
 gd (c0_12.length + y63_21.length ≤ 4294967296) (
 lt (c0_12 ++ y63_21) (fun y64_23 =>
 k19 y64_23))))
 else (k19 c0_12)))))
 else (up ((Sh.tmerge_fault c0_12).bind (fun y86_33 =>
 if y86_33.isNil = true then ((Sh.slices_Clip_files_Row_files_File c0_12).bind (fun y93_34 =>
 (Sh.slices_Clip_index_Entry_index_Entry c1_13).bind (fun y96_35 =>
 (Sh.slices_Clip_string_string c2_14).bind (fun y99_36 =>
 some (⟨y93_34, y96_35, y99_36⟩, Err.nil)))))
 else (some (⟨[], [], []⟩, y86_33)))))) (0, ([] : List FilesFile), ([] : List IndexEntry), ([] : List Str))))))) 0)
noncomputable def l16_known  : Option Bool :=
 lt [⟨[97], 1, [120, 10]⟩, ⟨[98], 1, [121, 10]⟩] (fun y11_2 =>
 lt [⟨[97], 1, [88, 10]⟩, ⟨[98], 1, [49, 10]⟩] (fun y14_4 =>
 lt [⟨[97], 1, [120, 10]⟩, ⟨[98], 1, [50, 10]⟩] (fun y17_6 =>
 (Sh.tmerge_Merge y11_2 y14_4 y17_6 [112] [113]).bind (fun y22_7 =>
 (Sh.tmerge_One [97] y11_2 y14_4 y17_6 [112] [113]).bind (fun y29_9 =>
 if y22_7.2.isNil = true then (if (y22_7.1.files.length : Int) = 2 then ((at_ y22_7.1.files 0).bind (fun z44_11 =>
 if z44_11.data = [88, 10] then (if (y22_7.1.conflicts.length : Int) = 1 then ((at_ y22_7.1.conflicts 0).bind (fun z58_12 =>
 if z58_12 = [98] then (if (y22_7.1.entries.length : Int) = 3 then (if y29_9.1.data = [88, 10] then (if y29_9.2.1 = true then (some (!y29_9.2.2))
 else (some false))
 else (some false))
 else (some false))
 else (some false)))
 else (some false))
 else (some false)))
 else (some false))
 else (some false))))))
noncomputable def l14_Few (r_0 : List FilesFile) : Option Bool :=
 if 80 < (r_0.length : Int) then (some false)
 else (iter (fun (i3_1 : Int) =>
 if i3_1 < (r_0.length : Int) then (jn (fun (x28_2 : Bool) =>
 if x28_2 = true then (up (some false))
 else (gd (I64 (i3_1 + 1)) (
 go (i3_1 + 1)))) (fun k3 => (at_ r_0 i3_1).bind (fun z15_4 =>
 if 100 < (z15_4.path.length : Int) then (k3 true)
 else ((at_ r_0 i3_1).bind (fun z23_5 =>
 k3 (decide (5000 < (z23_5.data.length : Int))))))))
 else (up (some true))) 0)
noncomputable def l16_short (r_0 : List FilesFile) : Option Bool :=
 if 20 < (r_0.length : Int) then (if 64 < (r_0.length : Int) then (some (decide ((r_0.length : Int) ≤ 80)))
 else (some false))
 else (iter (fun ((n3_1, i4_2) : Int × Int) =>
 if i4_2 < (r_0.length : Int) then ((at_ r_0 i4_2).bind (fun z25_3 =>
 gd (I64 (n3_1 + (z25_3.data.length : Int))) (
 jn (fun (x45_4 : Bool) =>
 if x45_4 = true then (up (some false))
 else (gd (I64 (i4_2 + 1)) (
 go ((n3_1 + (z25_3.data.length : Int)), (i4_2 + 1))))) (fun k5 => (at_ r_0 i4_2).bind (fun z32_6 =>
 if 300 < (z32_6.data.length : Int) then ((at_ r_0 i4_2).bind (fun z40_7 =>
 k5 (decide ((z40_7.data.length : Int) ≤ 4096))))
 else (k5 false))))))
 else (up (if n3_1 ≤ 3000 then (some true)
 else (some (decide (4096 < n3_1)))))) (0, 0))
noncomputable def l14_Of (r_0 : List FilesFile) : Option (List Rectoref14File) :=
 iter (fun ((out3_1, i4_2) : List Rectoref14File × Int) =>
 if i4_2 < (r_0.length : Int) then ((at_ r_0 i4_2).bind (fun z14_3 =>
 (at_ r_0 i4_2).bind (fun z19_4 =>
 (at_ r_0 i4_2).bind (fun z24_5 =>
 lt [⟨z14_3.path, z19_4.mode, z24_5.data⟩] (fun y28_7 =>
 gd (out3_1.length + y28_7.length ≤ 4294967296) (
 lt (out3_1 ++ y28_7) (fun y29_9 =>
 gd (I64 (i4_2 + 1)) (
 go (y29_9, (i4_2 + 1))))))))))
 else (up (some out3_1))) ([], 0)
noncomputable def r14_Get (r_0 : List Rectoref14File) (p_1 : Str) : Option (Rectoref14File × Bool) :=
 iter (fun (i6_2 : Int) =>
 if i6_2 < (r_0.length : Int) then ((at_ r_0 i6_2).bind (fun z15_3 =>
 if z15_3.path = p_1 then ((at_ r_0 i6_2).bind (fun z22_4 =>
 up (some (⟨z22_4.path, z22_4.mode, z22_4.data⟩, true))))
 else (gd (I64 (i6_2 + 1)) (
 go (i6_2 + 1)))))
 else (up (some (⟨[], 0, []⟩, false)))) 0
noncomputable def r14_Like (a_0 : List Rectoref14File) (b_1 : List Rectoref14File) (p_2 : Str) : Option Bool :=
 (Sh.r14_Get a_0 p_2).bind (fun y14_1 =>
 (Sh.r14_Get b_1 p_2).bind (fun y20_3 =>
 if y14_1.2 = y20_3.2 then (some (decide (y14_1.1.path = y20_3.1.path ∧ y14_1.1.mode = y20_3.1.mode ∧ y14_1.1.data = y20_3.1.data)))
 else (some false)))
noncomputable def r11_Split (s_0 : Str) : Option (List Str) :=
 iter (fun ((out3_1, from4_2, i5_3) : List Str × Int × Int) =>
 if i5_3 < (s_0.length : Int) then (jn (fun ((out3_4, from4_5) : List Str × Int) =>
 gd (I64 (i5_3 + 1)) (
 go (out3_4, from4_5, (i5_3 + 1)))) (fun k6 => (at_ s_0 i5_3).bind (fun z14_7 =>
 if (z14_7.toNat : Int) = 10 then (gd (I64 (i5_3 + 1)) (
 gd ((0 : Int) ≤ from4_2 ∧ from4_2 ≤ (i5_3 + 1) ∧ (i5_3 + 1) ≤ (s_0.length : Int)) (
 lt ((s_0.drop from4_2.toNat).take ((i5_3 + 1).toNat - from4_2.toNat)) (fun y21_8 =>
 lt [y21_8] (fun y22_10 =>
 gd (out3_1.length + y22_10.length ≤ 4294967296) (
 lt (out3_1 ++ y22_10) (fun y23_12 =>
 gd (I64 (i5_3 + 1)) (
 k6 (y23_12, (i5_3 + 1))))))))))
 else (k6 (out3_1, from4_2)))))
 else (up (if from4_2 < (s_0.length : Int) then (gd ((0 : Int) ≤ from4_2 ∧ from4_2 ≤ (s_0.length : Int)) (
 lt (s_0.drop from4_2.toNat) (fun y33_13 =>
 lt [y33_13] (fun y34_15 =>
 gd (out3_1.length + y34_15.length ≤ 4294967296) (
 lt (out3_1 ++ y34_15) (fun y35_17 =>
 some y35_17))))))
 else (some out3_1)))) ([], 0, 0)
noncomputable def r3_At (word_0 : Str) (at_1 : Int) (e_2 : Int) : Option Rectoref3WrongP :=
 lt [⟨word_0, at_1⟩] (fun y10_3 =>
 some ⟨y10_3, e_2⟩)
noncomputable def r11_long (a_0 : List Str) (b_1 : List Str) : Option Rectoref3WrongP :=
 if 256 < (a_0.length : Int) then ((Sh.r3_At [108, 105, 110, 101, 115] 0 4).bind (fun y8_2 =>
 some ⟨y8_2.parts, y8_2.err⟩))
 else (if 256 < (b_1.length : Int) then ((Sh.r3_At [108, 105, 110, 101, 115] 1 4).bind (fun y12_3 =>
 some ⟨y12_3.parts, y12_3.err⟩))
 else (some ⟨[], 0⟩))
noncomputable def r11_Lines (a_0 : List Str) (b_1 : List Str) : Option (List Rectoref11Edit × Rectoref3WrongP) :=
 (Sh.r11_long a_0 b_1).bind (fun y13_2 =>
 if y13_2.err = 0 then ((Sh.r11_common a_0 b_1).bind (fun y20_4 =>
 jn (fun (out8_5 : List Rectoref11Edit) =>
 some (out8_5, ⟨y13_2.parts, y13_2.err⟩)) (fun k6 => iter (fun ((out8_7, i9_8, j10_9) : List Rectoref11Edit × Int × Int) =>
 jn (fun (_ : Unit) =>
 jn (fun (x41_11 : Bool) =>
 if x41_11 = true then ((at_ a_0 i9_8).bind (fun z66_15 =>
 lt [⟨1, z66_15⟩] (fun y69_17 =>
 gd (out8_7.length + y69_17.length ≤ 4294967296) (
 lt (out8_7 ++ y69_17) (fun y70_19 =>
 gd (I64 (i9_8 + 1)) (
 gd (I64 (j10_9 + 1)) (
 go (y70_19, (i9_8 + 1), (j10_9 + 1)))))))))
 else (jn (fun (x75_20 : Bool) =>
 if x75_20 = true then ((at_ a_0 i9_8).bind (fun z108_26 =>
 lt [⟨2, z108_26⟩] (fun y111_28 =>
 gd (out8_7.length + y111_28.length ≤ 4294967296) (
 lt (out8_7 ++ y111_28) (fun y112_30 =>
 gd (I64 (i9_8 + 1)) (
 go (y112_30, (i9_8 + 1), j10_9)))))))
 else ((at_ b_1 j10_9).bind (fun z34_31 =>
 lt [⟨3, z34_31⟩] (fun y37_33 =>
 gd (out8_7.length + y37_33.length ≤ 4294967296) (
 lt (out8_7 ++ y37_33) (fun y38_35 =>
 gd (I64 (j10_9 + 1)) (
 go (y38_35, i9_8, (j10_9 + 1))))))))) (fun k21 => if i9_8 < (a_0.length : Int) then (if j10_9 = (b_1.length : Int) then (k21 true)
 else (gd (I64 (i9_8 + 1)) (
 (at_ y20_4 (i9_8 + 1)).bind (fun z89_22 =>
 (at_ z89_22 j10_9).bind (fun z92_23 =>
 (at_ y20_4 i9_8).bind (fun z96_24 =>
 gd (I64 (j10_9 + 1)) (
 (at_ z96_24 (j10_9 + 1)).bind (fun z100_25 =>
 k21 (decide (z100_25 ≤ z92_23))))))))))
 else (k21 false)))) (fun k12 => if i9_8 < (a_0.length : Int) then (if j10_9 < (b_1.length : Int) then ((at_ a_0 i9_8).bind (fun z55_13 =>
 (at_ b_1 j10_9).bind (fun z59_14 =>
 k12 (decide (z55_13 = z59_14)))))
 else (k12 false))
 else (k12 false))) (fun k10 => if i9_8 < (a_0.length : Int) then (k10 ())
 else (if j10_9 < (b_1.length : Int) then (k10 ())
 else (up (k6 out8_7))))) ([], 0, 0))))
 else (some ([], ⟨y13_2.parts, y13_2.err⟩)))
noncomputable def r11_kept (l_0 : List Rectoref11Edit) (n_1 : Int) : Option (List Int) :=
 gd ((0 : Int) ≤ n_1 ∧ n_1 ≤ 4294967296) (
 lt (List.replicate n_1.toNat 0) (fun y10_2 =>
 iter (fun ((out5_3, i6_4, j7_5, k8_6) : List Int × Int × Int × Int) =>
 if k8_6 < (l_0.length : Int) then (jn (fun ((out5_7, i6_8, j7_9) : List Int × Int × Int) =>
 gd (I64 (k8_6 + 1)) (
 go (out5_7, i6_8, j7_9, (k8_6 + 1)))) (fun k10 => (at_ l_0 k8_6).bind (fun z19_11 =>
 if z19_11.op = 1 then ((at_ out5_3 i6_4).bind (fun z27_12 =>
 lt (out5_3.set i6_4.toNat j7_5) (fun ys4_14 =>
 gd (I64 (i6_4 + 1)) (
 gd (I64 (j7_5 + 1)) (
 k10 (ys4_14, (i6_4 + 1), (j7_5 + 1)))))))
 else (if z19_11.op = 2 then ((at_ out5_3 i6_4).bind (fun z36_15 =>
 lt (out5_3.set i6_4.toNat (-1)) (fun ys3_17 =>
 gd (I64 (i6_4 + 1)) (
 k10 (ys3_17, (i6_4 + 1), j7_5)))))
 else (if z19_11.op = 3 then (gd (I64 (j7_5 + 1)) (
 k10 (out5_3, i6_4, (j7_5 + 1))))
 else (k10 (out5_3, i6_4, j7_5)))))))
 else (up (some out5_3))) (y10_2, 0, 0, 0)))
noncomputable def r11_Equal (a_0 : List Str) (b_1 : List Str) : Option Bool :=
 if (a_0.length : Int) = (b_1.length : Int) then (iter (fun (i5_1 : Int) =>
 if i5_1 < (a_0.length : Int) then ((at_ a_0 i5_1).bind (fun z19_2 =>
 (at_ b_1 i5_1).bind (fun z23_3 =>
 if z19_2 = z23_3 then (gd (I64 (i5_1 + 1)) (
 go (i5_1 + 1)))
 else (up (some false)))))
 else (up (some true))) 0)
 else (some false)
noncomputable def r11_between (b_0 : List Str) (o_1 : List Str) (t_2 : List Str) : Option Rectoref11ChunkP :=
 (Sh.r11_Equal o_1 b_0).bind (fun y16_3 =>
 if y16_3 = true then (some ⟨b_0, o_1, t_2, false, t_2⟩)
 else ((Sh.r11_Equal t_2 b_0).bind (fun y22_4 =>
 if y22_4 = true then (some ⟨b_0, o_1, t_2, false, o_1⟩)
 else ((Sh.r11_Equal o_1 t_2).bind (fun y28_5 =>
 if y28_5 = true then (some ⟨b_0, o_1, t_2, false, o_1⟩)
 else (some ⟨b_0, o_1, t_2, true, []⟩))))))
noncomputable def r11_Chunks (b_0 : List Str) (o_1 : List Str) (t_2 : List Str) : Option (List Rectoref11ChunkP × Rectoref3WrongP) :=
 (Sh.r11_Lines b_0 o_1).bind (fun y26_2 =>
 if y26_2.2.err = 0 then ((Sh.r11_Lines b_0 t_2).bind (fun y36_4 =>
 if y36_4.2.err = 0 then ((Sh.r11_kept y26_2.1 (b_0.length : Int)).bind (fun y46_6 =>
 (Sh.r11_kept y36_4.1 (b_0.length : Int)).bind (fun y50_7 =>
 iter (fun ((out14_8, i15_9, j16_10, k17_11) : List Rectoref11ChunkP × Int × Int × Int) =>
 jn (fun (n18_12 : Int) =>
 jn (fun ((jo19_18, kt20_19) : Int × Int) =>
 jn (fun (out14_23 : List Rectoref11ChunkP) =>
 if n18_12 = (b_0.length : Int) then (up (some (out14_23, ⟨y26_2.2.parts, y26_2.2.err⟩)))
 else (jn (fun (m21_38 : Int) =>
 gd ((0 : Int) ≤ n18_12 ∧ n18_12 ≤ m21_38 ∧ m21_38 ≤ (b_0.length : Int)) (
 lt ((b_0.drop n18_12.toNat).take (m21_38.toNat - n18_12.toNat)) (fun y171_46 =>
 lt [⟨y171_46, y171_46, y171_46, false, y171_46⟩] (fun y178_48 =>
 gd (out14_23.length + y178_48.length ≤ 4294967296) (
 lt (out14_23 ++ y178_48) (fun y179_50 =>
 gd (I64 (jo19_18 + m21_38)) (
 gd (I64 ((jo19_18 + m21_38) - n18_12)) (
 gd (I64 (kt20_19 + m21_38)) (
 gd (I64 ((kt20_19 + m21_38) - n18_12)) (
 go (y179_50, m21_38, ((jo19_18 + m21_38) - n18_12), ((kt20_19 + m21_38) - n18_12)))))))))))) (fun k39 => iter (fun (m21_40 : Int) =>
 if m21_40 < (b_0.length : Int) then ((at_ y46_6 m21_40).bind (fun z131_41 =>
 if 0 ≤ z131_41 then ((at_ y50_7 m21_40).bind (fun z138_42 =>
 if 0 ≤ z138_42 then ((at_ y46_6 m21_40).bind (fun z145_43 =>
 gd (I64 (z145_43 - jo19_18)) (
 gd (I64 (m21_40 - n18_12)) (
 if (z145_43 - jo19_18) = (m21_40 - n18_12) then ((at_ y50_7 m21_40).bind (fun z157_44 =>
 gd (I64 (z157_44 - kt20_19)) (
 gd (I64 (m21_40 - n18_12)) (
 if (z157_44 - kt20_19) = (m21_40 - n18_12) then (gd (I64 (m21_40 + 1)) (
 go (m21_40 + 1)))
 else (up (k39 m21_40))))))
 else (up (k39 m21_40))))))
 else (up (k39 m21_40))))
 else (up (k39 m21_40))))
 else (up (k39 m21_40))) n18_12))) (fun k24 => jn (fun (x100_25 : Bool) =>
 if x100_25 = true then (gd ((0 : Int) ≤ i15_9 ∧ i15_9 ≤ n18_12 ∧ n18_12 ≤ (b_0.length : Int)) (
 lt ((b_0.drop i15_9.toNat).take (n18_12.toNat - i15_9.toNat)) (fun y105_28 =>
 gd ((0 : Int) ≤ j16_10 ∧ j16_10 ≤ jo19_18 ∧ jo19_18 ≤ (o_1.length : Int)) (
 lt ((o_1.drop j16_10.toNat).take (jo19_18.toNat - j16_10.toNat)) (fun y109_30 =>
 gd ((0 : Int) ≤ k17_11 ∧ k17_11 ≤ kt20_19 ∧ kt20_19 ≤ (t_2.length : Int)) (
 lt ((t_2.drop k17_11.toNat).take (kt20_19.toNat - k17_11.toNat)) (fun y113_32 =>
 (Sh.r11_between y105_28 y109_30 y113_32).bind (fun y114_33 =>
 lt [⟨y114_33.base, y114_33.ours, y114_33.theirs, y114_33.clash, y114_33.out⟩] (fun y115_35 =>
 gd (out14_8.length + y115_35.length ≤ 4294967296) (
 lt (out14_8 ++ y115_35) (fun y116_37 =>
 k24 y116_37)))))))))))
 else (k24 out14_8)) (fun k26 => if i15_9 < n18_12 then (k26 true)
 else (if j16_10 < jo19_18 then (k26 true)
 else (k26 (decide (k17_11 < kt20_19))))))) (fun k20 => if n18_12 < (b_0.length : Int) then ((at_ y46_6 n18_12).bind (fun z82_21 =>
 (at_ y50_7 n18_12).bind (fun z86_22 =>
 k20 (z82_21, z86_22))))
 else (k20 ((o_1.length : Int), (t_2.length : Int))))) (fun k13 => iter (fun (n18_14 : Int) =>
 jn (fun (_ : Unit) =>
 gd (I64 (n18_14 + 1)) (
 go (n18_14 + 1))) (fun k15 => if n18_14 < (b_0.length : Int) then ((at_ y46_6 n18_14).bind (fun z59_16 =>
 if z59_16 < 0 then (k15 ())
 else ((at_ y50_7 n18_14).bind (fun z65_17 =>
 if z65_17 < 0 then (k15 ())
 else (up (k13 n18_14))))))
 else (up (k13 n18_14)))) i15_9)) ([], 0, 0, 0))))
 else (some ([], ⟨y36_4.2.parts, y36_4.2.err⟩))))
 else (some ([], ⟨y26_2.2.parts, y26_2.2.err⟩)))
noncomputable def r11_Join (l_0 : List Str) : Option Str :=
 iter (fun ((s3_1, i4_2) : Str × Int) =>
 if i4_2 < (l_0.length : Int) then ((at_ l_0 i4_2).bind (fun z14_3 =>
 gd (s3_1.length + z14_3.length ≤ 9223372036854775807) (
 lt (s3_1 ++ z14_3) (fun y16_4 =>
 gd (I64 (i4_2 + 1)) (
 go (y16_4, (i4_2 + 1)))))))
 else (up (some s3_1))) ([], 0)
noncomputable def r11_ended (s_0 : Str) : Option Str :=
 jn (fun (x13_1 : Bool) =>
 if x13_1 = true then (some s_0)
 else (gd (s_0.length + [10].length ≤ 9223372036854775807) (
 lt (s_0 ++ [10]) (fun y16_4 =>
 some y16_4)))) (fun k2 => if 0 < (s_0.length : Int) then (gd (I64 ((s_0.length : Int) - 1)) (
 (at_ s_0 ((s_0.length : Int) - 1)).bind (fun z11_3 =>
 k2 (decide ((z11_3.toNat : Int) = 10)))))
 else (k2 false))
noncomputable def r11_marked (l_0 : List Str) : Option Str :=
 (Sh.r11_Join l_0).bind (fun y5_1 =>
 if y5_1 = [] then (some [])
 else ((Sh.r11_ended y5_1).bind (fun y9_2 =>
 some y9_2)))
noncomputable def r11_Text (base_0 : Str) (ours_1 : Str) (theirs_2 : Str) (a_3 : Str) (b_4 : Str) : Option (Str × Int × Rectoref3WrongP) :=
 (Sh.r11_Split base_0).bind (fun y20_2 =>
 (Sh.r11_Split ours_1).bind (fun y22_3 =>
 (Sh.r11_Split theirs_2).bind (fun y24_4 =>
 (Sh.r11_Chunks y20_2 y22_3 y24_4).bind (fun y25_5 =>
 if y25_5.2.err = 0 then (iter (fun ((s15_7, n16_8, i17_9) : Str × Int × Int) =>
 if i17_9 < (y25_5.1.length : Int) then (jn (fun ((s15_10, n16_11) : Str × Int) =>
 gd (I64 (i17_9 + 1)) (
 go (s15_10, n16_11, (i17_9 + 1)))) (fun k12 => (at_ y25_5.1 i17_9).bind (fun z40_13 =>
 if (!z40_13.clash) = true then ((at_ y25_5.1 i17_9).bind (fun z47_14 =>
 (Sh.r11_Join z47_14.out).bind (fun y50_15 =>
 gd (s15_7.length + y50_15.length ≤ 9223372036854775807) (
 lt (s15_7 ++ y50_15) (fun y51_16 =>
 k12 (y51_16, n16_8))))))
 else (gd (I64 (n16_8 + 1)) (
 gd (s15_7.length + [60, 60, 60, 60, 60, 60, 60, 32].length ≤ 9223372036854775807) (
 lt (s15_7 ++ [60, 60, 60, 60, 60, 60, 60, 32]) (fun y55_17 =>
 gd (y55_17.length + a_3.length ≤ 9223372036854775807) (
 lt (y55_17 ++ a_3) (fun y57_18 =>
 gd (y57_18.length + [10].length ≤ 9223372036854775807) (
 lt (y57_18 ++ [10]) (fun y58_19 =>
 (at_ y25_5.1 i17_9).bind (fun z61_20 =>
 (Sh.r11_marked z61_20.ours).bind (fun y64_21 =>
 gd (y58_19.length + y64_21.length ≤ 9223372036854775807) (
 lt (y58_19 ++ y64_21) (fun y65_22 =>
 gd (y65_22.length + [61, 61, 61, 61, 61, 61, 61, 10].length ≤ 9223372036854775807) (
 lt (y65_22 ++ [61, 61, 61, 61, 61, 61, 61, 10]) (fun y66_23 =>
 (at_ y25_5.1 i17_9).bind (fun z69_24 =>
 (Sh.r11_marked z69_24.theirs).bind (fun y72_25 =>
 gd (y66_23.length + y72_25.length ≤ 9223372036854775807) (
 lt (y66_23 ++ y72_25) (fun y73_26 =>
 gd (y73_26.length + [62, 62, 62, 62, 62, 62, 62, 32].length ≤ 9223372036854775807) (
 lt (y73_26 ++ [62, 62, 62, 62, 62, 62, 62, 32]) (fun y74_27 =>
 gd (y74_27.length + b_4.length ≤ 9223372036854775807) (
 lt (y74_27 ++ b_4) (fun y76_28 =>
 gd (y76_28.length + [10].length ≤ 9223372036854775807) (
 lt (y76_28 ++ [10]) (fun y77_29 =>
 k12 (y77_29, (n16_8 + 1)))))))))))))))))))))))))))))
 else (up (some (s15_7, n16_8, ⟨y25_5.2.parts, y25_5.2.err⟩)))) ([], 0, 0))
 else (some ([], 0, ⟨y25_5.2.parts, y25_5.2.err⟩))))))
noncomputable def r14_both (b_0 : Rectoref14File) (is_1 : Bool) (o_2 : Rectoref14File) (t_3 : Rectoref14File) (an_4 : Str) (bn_5 : Str) : Option (Rectoref14File × Bool) :=
 jn (fun (c1_6 : Int) =>
 if o_2.data = t_3.data then (some (⟨o_2.path, c1_6, o_2.data⟩, false))
 else (jn (fun (x37_10 : Bool) =>
 if x37_10 = true then (some (⟨o_2.path, c1_6, t_3.data⟩, false))
 else (jn (fun (x50_12 : Bool) =>
 if x50_12 = true then (some (⟨o_2.path, c1_6, o_2.data⟩, false))
 else ((Sh.r11_Text b_0.data o_2.data t_3.data an_4 bn_5).bind (fun y69_14 =>
 jn (fun (x80_16 : Bool) =>
 if x80_16 = true then (some (⟨o_2.path, c1_6, o_2.data⟩, true))
 else (some (⟨o_2.path, c1_6, y69_14.1⟩, (decide (0 < y69_14.2.1))))) (fun k17 => if y69_14.2.2.err = 0 then (k17 (decide (4096 < (y69_14.1.length : Int))))
 else (k17 true))))) (fun k13 => if is_1 = true then (k13 (decide (t_3.data = b_0.data)))
 else (k13 false)))) (fun k11 => if is_1 = true then (k11 (decide (o_2.data = b_0.data)))
 else (k11 false)))) (fun k7 => jn (fun (x26_8 : Bool) =>
 if x26_8 = true then (k7 t_3.mode)
 else (k7 o_2.mode)) (fun k9 => if is_1 = true then (k9 (decide (b_0.mode = o_2.mode)))
 else (k9 false)))
noncomputable def r14_One (p_0 : Str) (base_1 : List Rectoref14File) (ours_2 : List Rectoref14File) (theirs_3 : List Rectoref14File) (a_4 : Str) (b_5 : Str) : Option (Rectoref14File × Bool × Bool) :=
 (Sh.r14_Get base_1 p_0).bind (fun y26_2 =>
 (Sh.r14_Get ours_2 p_0).bind (fun y32_4 =>
 (Sh.r14_Get theirs_3 p_0).bind (fun y38_6 =>
 jn (fun (x41_8 : Bool) =>
 if x41_8 = true then (some (⟨y32_4.1.path, y32_4.1.mode, y32_4.1.data⟩, y32_4.2, false))
 else ((Sh.r14_Like base_1 ours_2 p_0).bind (fun y58_12 =>
 if y58_12 = true then (some (⟨y38_6.1.path, y38_6.1.mode, y38_6.1.data⟩, y38_6.2, false))
 else (jn (fun (x61_13 : Bool) =>
 if x61_13 = true then ((Sh.r14_both (⟨y26_2.1.path, y26_2.1.mode, y26_2.1.data⟩ : Rectoref14File) y26_2.2 (⟨y32_4.1.path, y32_4.1.mode, y32_4.1.data⟩ : Rectoref14File) (⟨y38_6.1.path, y38_6.1.mode, y38_6.1.data⟩ : Rectoref14File) a_4 b_5).bind (fun y73_15 =>
 some (⟨y73_15.1.path, y73_15.1.mode, y73_15.1.data⟩, true, y73_15.2)))
 else (if y32_4.2 = true then (some (⟨y32_4.1.path, y32_4.1.mode, y32_4.1.data⟩, true, true))
 else (some (⟨y38_6.1.path, y38_6.1.mode, y38_6.1.data⟩, y38_6.2, true)))) (fun k14 => if y32_4.2 = true then (k14 y38_6.2)
 else (k14 false)))))) (fun k9 => (Sh.r14_Like ours_2 theirs_3 p_0).bind (fun y45_10 =>
 if y45_10 = true then (k9 true)
 else ((Sh.r14_Like base_1 theirs_3 p_0).bind (fun y50_11 =>
 k9 y50_11)))))))
noncomputable def r1_Parts (p_0 : Str) : Option (List Str) :=
 if p_0 = [] then (some [])
 else (lt [[]] (fun y7_2 =>
 iter (fun ((out3_3, i4_4) : List Str × Int) =>
 if i4_4 < (p_0.length : Int) then (jn (fun (out3_5 : List Str) =>
 gd (I64 (i4_4 + 1)) (
 go (out3_5, (i4_4 + 1)))) (fun k6 => (at_ p_0 i4_4).bind (fun z16_7 =>
 if (z16_7.toNat : Int) = 47 then (lt [[]] (fun y19_9 =>
 gd (out3_3.length + y19_9.length ≤ 4294967296) (
 lt (out3_3 ++ y19_9) (fun y20_11 =>
 k6 y20_11))))
 else (gd (I64 ((out3_3.length : Int) - 1)) (
 gd (I64 ((out3_3.length : Int) - 1)) (
 (at_ out3_3 ((out3_3.length : Int) - 1)).bind (fun z29_12 =>
 gd (I64 (i4_4 + 1)) (
 gd ((0 : Int) ≤ i4_4 ∧ i4_4 ≤ (i4_4 + 1) ∧ (i4_4 + 1) ≤ (p_0.length : Int)) (
 lt ((p_0.drop i4_4.toNat).take ((i4_4 + 1).toNat - i4_4.toNat)) (fun y35_13 =>
 gd (z29_12.length + y35_13.length ≤ 9223372036854775807) (
 lt (z29_12 ++ y35_13) (fun y36_14 =>
 (at_ out3_3 ((out3_3.length : Int) - 1)).bind (fun z37_15 =>
 lt (out3_3.set ((out3_3.length : Int) - 1).toNat y36_14) (fun ys17_17 =>
 k6 ys17_17))))))))))))))
 else (up (some out3_3))) (y7_2, 0)))
noncomputable def r1_good (c_0 : Int) : Option Bool :=
 if 97 ≤ c_0 then (if c_0 ≤ 122 then (some true)
 else (if 48 ≤ c_0 then (if c_0 ≤ 57 then (some true)
 else (if c_0 = 46 then (some true)
 else (if c_0 = 45 then (some true)
 else (some (decide (c_0 = 95))))))
 else (if c_0 = 46 then (some true)
 else (if c_0 = 45 then (some true)
 else (some (decide (c_0 = 95)))))))
 else (if 48 ≤ c_0 then (if c_0 ≤ 57 then (some true)
 else (if c_0 = 46 then (some true)
 else (if c_0 = 45 then (some true)
 else (some (decide (c_0 = 95))))))
 else (if c_0 = 46 then (some true)
 else (if c_0 = 45 then (some true)
 else (some (decide (c_0 = 95))))))
noncomputable def r1_Check (p_0 : Str) : Option Int :=
 if 64 < (p_0.length : Int) then (some 4)
 else ((Sh.r1_Parts p_0).bind (fun y10_1 =>
 if (y10_1.length : Int) = 0 then (some 5)
 else (iter (fun (i4_2 : Int) =>
 if i4_2 < (y10_1.length : Int) then (jn (fun (_ : Unit) =>
 gd (I64 (i4_2 + 1)) (
 go (i4_2 + 1))) (fun k3 => jn (fun (x38_4 : Bool) =>
 if x38_4 = true then (up (some 5))
 else (iter (fun (k5_9 : Int) =>
 (at_ y10_1 i4_2).bind (fun z42_10 =>
 if k5_9 < (z42_10.length : Int) then ((at_ y10_1 i4_2).bind (fun z50_11 =>
 (at_ z50_11 k5_9).bind (fun z53_12 =>
 (Sh.r1_good (z53_12.toNat : Int)).bind (fun y54_13 =>
 if (!y54_13) = true then (up (up (some 5)))
 else (gd (I64 (k5_9 + 1)) (
 go (k5_9 + 1)))))))
 else (up (k3 ())))) 0)) (fun k5 => (at_ y10_1 i4_2).bind (fun z22_6 =>
 if z22_6 = [] then (k5 true)
 else ((at_ y10_1 i4_2).bind (fun z28_7 =>
 if z28_7 = [46] then (k5 true)
 else ((at_ y10_1 i4_2).bind (fun z35_8 =>
 k5 (decide (z35_8 = [46, 46]))))))))))
 else (up (some 0))) 0)))
noncomputable def r14_Mode (m_0 : Int) : Option Bool :=
 if m_0 = 1 then (some true)
 else (some (decide (m_0 = 2)))
noncomputable def r14_Cause (f_0 : Rectoref14File) : Option Int :=
 (Sh.r1_Check f_0.path).bind (fun y6_2 =>
 if y6_2 = 0 then ((Sh.r14_Mode f_0.mode).bind (fun y14_3 =>
 if (!y14_3) = true then (some 1)
 else (if 4096 < (f_0.data.length : Int) then (some 4)
 else (some 0))))
 else (some y6_2))
noncomputable def r1_Under (p_0 : Str) (dir_1 : Str) : Option Bool :=
 if dir_1 = [] then (some (!decide (p_0 = [])))
 else (gd (I64 ((dir_1.length : Int) + 1)) (
 if ((dir_1.length : Int) + 1) < (p_0.length : Int) then (gd ((0 : Int) ≤ (dir_1.length : Int) ∧ (dir_1.length : Int) ≤ (p_0.length : Int)) (
 lt (p_0.take (dir_1.length : Int).toNat) (fun y19_1 =>
 if y19_1 = dir_1 then ((at_ p_0 (dir_1.length : Int)).bind (fun z27_2 =>
 some (decide ((z27_2.toNat : Int) = 47))))
 else (some false))))
 else (some false)))
noncomputable def r1_Clash (a_0 : Str) (b_1 : Str) : Option Bool :=
 if a_0 = [] then (some false)
 else (if b_1 = [] then (some false)
 else ((Sh.r1_Under a_0 b_1).bind (fun y14_1 =>
 if y14_1 = true then (some true)
 else ((Sh.r1_Under b_1 a_0).bind (fun y18_2 =>
 some y18_2)))))
noncomputable def r14_Check (r_0 : List Rectoref14File) : Option Rectoref3WrongP :=
 if 64 < (r_0.length : Int) then ((Sh.r3_At [102, 105, 108, 101] 64 4).bind (fun y9_2 =>
 some ⟨y9_2.parts, y9_2.err⟩))
 else (iter (fun (i3_3 : Int) =>
 if i3_3 < (r_0.length : Int) then ((at_ r_0 i3_3).bind (fun z18_4 =>
 (Sh.r14_Cause (⟨z18_4.path, z18_4.mode, z18_4.data⟩ : Rectoref14File)).bind (fun y20_5 =>
 jn (fun (e4_6 : Int) =>
 jn (fun (e4_12 : Int) =>
 if e4_12 = 0 then (gd (I64 (i3_3 + 1)) (
 go (i3_3 + 1)))
 else ((Sh.r3_At [102, 105, 108, 101] i3_3 e4_12).bind (fun y65_21 =>
 up (some ⟨y65_21.parts, y65_21.err⟩)))) (fun k13 => iter (fun ((e4_14, k5_15) : Int × Int) =>
 if k5_15 < i3_3 then (if e4_14 = 0 then (jn (fun (e4_16 : Int) =>
 gd (I64 (k5_15 + 1)) (
 go (e4_16, (k5_15 + 1)))) (fun k17 => (at_ r_0 k5_15).bind (fun z52_18 =>
 (at_ r_0 i3_3).bind (fun z57_19 =>
 (Sh.r1_Clash z52_18.path z57_19.path).bind (fun y60_20 =>
 if y60_20 = true then (k17 11)
 else (k17 e4_14))))))
 else (up (k13 e4_14)))
 else (up (k13 e4_14))) (e4_6, 0))) (fun k7 => jn (fun (x40_8 : Bool) =>
 if x40_8 = true then (k7 6)
 else (k7 y20_5)) (fun k9 => if y20_5 = 0 then (if 0 < i3_3 then (gd (I64 (i3_3 - 1)) (
 (at_ r_0 (i3_3 - 1)).bind (fun z31_10 =>
 (at_ r_0 i3_3).bind (fun z36_11 =>
 k9 (!Op.bytesLess z31_10.path z36_11.path)))))
 else (k9 false))
 else (k9 false))))))
 else (up (some ⟨[], 0⟩))) 0)
noncomputable def r14_Put (r_0 : List Rectoref14File) (f_1 : Rectoref14File) : Option (List Rectoref14File) :=
 iter (fun ((out5_2, put6_3, i7_4) : List Rectoref14File × Bool × Int) =>
 if i7_4 < (r_0.length : Int) then (jn (fun ((out5_5, put6_6) : List Rectoref14File × Bool) =>
 gd (I64 (i7_4 + 1)) (
 go (out5_5, put6_6, (i7_4 + 1)))) (fun k7 => jn (fun ((out5_8, put6_9) : List Rectoref14File × Bool) =>
 (at_ r_0 i7_4).bind (fun z32_18 =>
 if z32_18.path = f_1.path then (k7 (out5_8, put6_9))
 else ((at_ r_0 i7_4).bind (fun z41_19 =>
 lt [⟨z41_19.path, z41_19.mode, z41_19.data⟩] (fun y43_21 =>
 gd (out5_8.length + y43_21.length ≤ 4294967296) (
 lt (out5_8 ++ y43_21) (fun y44_23 =>
 k7 (y44_23, put6_9)))))))) (fun k10 => jn (fun (x25_11 : Bool) =>
 if x25_11 = true then (lt [⟨f_1.path, f_1.mode, f_1.data⟩] (fun y28_15 =>
 gd (out5_2.length + y28_15.length ≤ 4294967296) (
 lt (out5_2 ++ y28_15) (fun y29_17 =>
 k10 (y29_17, true)))))
 else (k10 (out5_2, put6_3))) (fun k12 => if (!put6_3) = true then ((at_ r_0 i7_4).bind (fun z19_13 =>
 k12 (!Op.bytesLess z19_13.path f_1.path)))
 else (k12 false)))))
 else (up (if (!put6_3) = true then (lt [⟨f_1.path, f_1.mode, f_1.data⟩] (fun y49_25 =>
 gd (out5_2.length + y49_25.length ≤ 4294967296) (
 lt (out5_2 ++ y49_25) (fun y50_27 =>
 some y50_27))))
 else (some out5_2)))) ([], false, 0)
noncomputable def r14_Paths (l_0 : List (List Rectoref14File)) : Option (List Str) :=
 iter (fun ((r3_1, i4_2) : List Rectoref14File × Int) =>
 if i4_2 < (l_0.length : Int) then (iter (fun ((r3_3, k5_4) : List Rectoref14File × Int) =>
 (at_ l_0 i4_2).bind (fun z17_5 =>
 if k5_4 < (z17_5.length : Int) then ((at_ l_0 i4_2).bind (fun z26_6 =>
 (at_ z26_6 k5_4).bind (fun z29_7 =>
 (Sh.r14_Put r3_3 (⟨z29_7.path, 0, []⟩ : Rectoref14File)).bind (fun y33_8 =>
 gd (I64 (k5_4 + 1)) (
 go (y33_8, (k5_4 + 1)))))))
 else (up (gd (I64 (i4_2 + 1)) (
 go (r3_3, (i4_2 + 1))))))) (r3_1, 0))
 else (up (iter (fun ((out6_9, i7_10) : List Str × Int) =>
 if i7_10 < (r3_1.length : Int) then ((at_ r3_1 i7_10).bind (fun z43_11 =>
 lt [z43_11.path] (fun y46_13 =>
 gd (out6_9.length + y46_13.length ≤ 4294967296) (
 lt (out6_9 ++ y46_13) (fun y47_15 =>
 gd (I64 (i7_10 + 1)) (
 go (y47_15, (i7_10 + 1))))))))
 else (up (some out6_9))) ([], 0)))) ([], 0)
noncomputable def r14_Merge (base_0 : List Rectoref14File) (ours_1 : List Rectoref14File) (theirs_2 : List Rectoref14File) (a_3 : Str) (b_4 : Str) : Option (Rectoref14ResultP × Rectoref3WrongP) :=
 lt [base_0, ours_1, theirs_2] (fun y29_4 =>
 iter (fun (i13_5 : Int) =>
 if i13_5 < 3 then ((at_ y29_4 i13_5).bind (fun z36_6 =>
 (Sh.r14_Check z36_6).bind (fun y38_7 =>
 if y38_7.err = 0 then (gd (I64 (i13_5 + 1)) (
 go (i13_5 + 1)))
 else (up (some (⟨[], [], []⟩, ⟨y38_7.parts, y38_7.err⟩))))))
 else (up ((Sh.r14_Paths y29_4).bind (fun y46_10 =>
 iter (fun ((i17_11, c0_12, c1_13, c2_14) : Int × List Rectoref14File × List Rectoref14Entry × List Str) =>
 if i17_11 < (y46_10.length : Int) then (jn (fun ((c0_15, c1_16, c2_17) : List Rectoref14File × List Rectoref14Entry × List Str) =>
 gd (I64 (i17_11 + 1)) (
 go ((i17_11 + 1), c0_15, c1_16, c2_17))) (fun k18 => (at_ y46_10 i17_11).bind (fun z56_19 =>
 (Sh.r14_One z56_19 base_0 ours_1 theirs_2 a_3 b_4).bind (fun y63_20 =>
 jn (fun (c0_22 : List Rectoref14File) =>
 if (!y63_20.2.2) = true then (k18 (c0_22, c1_13, c2_14))
 else ((at_ y46_10 i17_11).bind (fun z80_28 =>
 lt [z80_28] (fun y82_30 =>
 gd (c2_14.length + y82_30.length ≤ 4294967296) (
 lt (c2_14 ++ y82_30) (fun y83_32 =>
 iter (fun ((k21_33, c1_34) : Int × List Rectoref14Entry) =>
 if k21_33 < 3 then (jn (fun (c1_35 : List Rectoref14Entry) =>
 gd (I64 (k21_33 + 1)) (
 go ((k21_33 + 1), c1_35))) (fun k36 => (at_ y29_4 k21_33).bind (fun z92_37 =>
 (at_ y46_10 i17_11).bind (fun z96_38 =>
 (Sh.r14_Get z92_37 z96_38).bind (fun y98_39 =>
 if y98_39.2 = true then (gd (I64 (k21_33 + 1)) (
 lt [⟨y98_39.1.path, (k21_33 + 1), y98_39.1.mode, y98_39.1.data, 0, 0⟩] (fun y113_42 =>
 gd (c1_34.length + y113_42.length ≤ 4294967296) (
 lt (c1_34 ++ y113_42) (fun y114_44 =>
 k36 y114_44)))))
 else (k36 c1_34))))))
 else (up (k18 (c0_22, c1_34, y83_32)))) (0, c1_13))))))) (fun k23 => if y63_20.2.1 = true then (lt [⟨y63_20.1.path, y63_20.1.mode, y63_20.1.data⟩] (fun y71_25 =>
 gd (c0_12.length + y71_25.length ≤ 4294967296) (
 lt (c0_12 ++ y71_25) (fun y72_27 =>
 k23 y72_27))))
 else (k23 c0_12))))))
 else (up (if 64 < (c0_12.length : Int) then ((Sh.r3_At [102, 105, 108, 101] 64 4).bind (fun y121_45 =>
 some (⟨[], [], []⟩, ⟨y121_45.parts, y121_45.err⟩)))
 else (iter (fun (i24_46 : Int) =>
 if i24_46 < (c0_12.length : Int) then (iter (fun (k25_47 : Int) =>
 if k25_47 < i24_46 then ((at_ c0_12 k25_47).bind (fun z137_48 =>
 (at_ c0_12 i24_46).bind (fun z143_49 =>
 (Sh.r1_Clash z137_48.path z143_49.path).bind (fun y146_50 =>
 if y146_50 = true then ((Sh.r3_At [102, 105, 108, 101] i24_46 11).bind (fun y149_51 =>
 up (up (some (⟨[], [], []⟩, ⟨y149_51.parts, y149_51.err⟩)))))
 else (gd (I64 (k25_47 + 1)) (
 go (k25_47 + 1)))))))
 else (up (gd (I64 (i24_46 + 1)) (
 go (i24_46 + 1))))) 0)
 else (up (some (⟨c0_12, c1_13, c2_14⟩, ⟨[], 0⟩)))) 0)))) (0, ([] : List Rectoref14File), ([] : List Rectoref14Entry), ([] : List Str)))))) 0)
noncomputable def api_Errno_Error (e_0 : Int) : Option Str :=
 if e_0 = 0 then (some [111, 107])
 else (if e_0 = 1 then (some [97, 114, 103])
 else (if e_0 = 2 then (some [102, 111, 114, 109])
 else (if e_0 = 3 then (some [115, 104, 111, 114, 116])
 else (if e_0 = 4 then (some [108, 111, 110, 103])
 else (if e_0 = 5 then (some [110, 97, 109, 101])
 else (if e_0 = 6 then (some [116, 119, 105, 99, 101])
 else (if e_0 = 7 then (some [115, 116, 97, 116, 101])
 else (if e_0 = 8 then (some [100, 105, 114, 116, 121])
 else (if e_0 = 9 then (some [99, 111, 110, 102, 108, 105, 99, 116])
 else (if e_0 = 10 then (some [115, 97, 109, 101])
 else (if e_0 = 11 then (some [119, 97, 121])
 else (if e_0 = 12 then (some [115, 117, 109])
 else (if e_0 = 13 then (some [100, 111, 119, 110])
 else (if e_0 = 14 then (some [113, 117, 111, 116, 97])
 else (some [101, 114, 114, 111, 114])))))))))))))))
noncomputable def internal_strconv_small (i_0 : Int) : Option Str :=
 if i_0 < 10 then (gd (I64 (i_0 + 1)) (
 gd ((0 : Int) ≤ i_0 ∧ i_0 ≤ (i_0 + 1) ∧ (i_0 + 1) ≤ ([48, 49, 50, 51, 52, 53, 54, 55, 56, 57, 97, 98, 99, 100, 101, 102, 103, 104, 105, 106, 107, 108, 109, 110, 111, 112, 113, 114, 115, 116, 117, 118, 119, 120, 121, 122].length : Int)) (
 lt (([48, 49, 50, 51, 52, 53, 54, 55, 56, 57, 97, 98, 99, 100, 101, 102, 103, 104, 105, 106, 107, 108, 109, 110, 111, 112, 113, 114, 115, 116, 117, 118, 119, 120, 121, 122].drop i_0.toNat).take ((i_0 + 1).toNat - i_0.toNat)) (fun y8_1 =>
 some y8_1))))
 else (gd (I64 (i_0 * 2)) (
 gd (I64 (i_0 * 2)) (
 gd (I64 ((i_0 * 2) + 2)) (
 gd ((0 : Int) ≤ (i_0 * 2) ∧ (i_0 * 2) ≤ ((i_0 * 2) + 2) ∧ ((i_0 * 2) + 2) ≤ ([48, 48, 48, 49, 48, 50, 48, 51, 48, 52, 48, 53, 48, 54, 48, 55, 48, 56, 48, 57, 49, 48, 49, 49, 49, 50, 49, 51, 49, 52, 49, 53, 49, 54, 49, 55, 49, 56, 49, 57, 50, 48, 50, 49, 50, 50, 50, 51, 50, 52, 50, 53, 50, 54, 50, 55, 50, 56, 50, 57, 51, 48, 51, 49, 51, 50, 51, 51, 51, 52, 51, 53, 51, 54, 51, 55, 51, 56, 51, 57, 52, 48, 52, 49, 52, 50, 52, 51, 52, 52, 52, 53, 52, 54, 52, 55, 52, 56, 52, 57, 53, 48, 53, 49, 53, 50, 53, 51, 53, 52, 53, 53, 53, 54, 53, 55, 53, 56, 53, 57, 54, 48, 54, 49, 54, 50, 54, 51, 54, 52, 54, 53, 54, 54, 54, 55, 54, 56, 54, 57, 55, 48, 55, 49, 55, 50, 55, 51, 55, 52, 55, 53, 55, 54, 55, 55, 55, 56, 55, 57, 56, 48, 56, 49, 56, 50, 56, 51, 56, 52, 56, 53, 56, 54, 56, 55, 56, 56, 56, 57, 57, 48, 57, 49, 57, 50, 57, 51, 57, 52, 57, 53, 57, 54, 57, 55, 57, 56, 57, 57].length : Int)) (
 lt (([48, 48, 48, 49, 48, 50, 48, 51, 48, 52, 48, 53, 48, 54, 48, 55, 48, 56, 48, 57, 49, 48, 49, 49, 49, 50, 49, 51, 49, 52, 49, 53, 49, 54, 49, 55, 49, 56, 49, 57, 50, 48, 50, 49, 50, 50, 50, 51, 50, 52, 50, 53, 50, 54, 50, 55, 50, 56, 50, 57, 51, 48, 51, 49, 51, 50, 51, 51, 51, 52, 51, 53, 51, 54, 51, 55, 51, 56, 51, 57, 52, 48, 52, 49, 52, 50, 52, 51, 52, 52, 52, 53, 52, 54, 52, 55, 52, 56, 52, 57, 53, 48, 53, 49, 53, 50, 53, 51, 53, 52, 53, 53, 53, 54, 53, 55, 53, 56, 53, 57, 54, 48, 54, 49, 54, 50, 54, 51, 54, 52, 54, 53, 54, 54, 54, 55, 54, 56, 54, 57, 55, 48, 55, 49, 55, 50, 55, 51, 55, 52, 55, 53, 55, 54, 55, 55, 55, 56, 55, 57, 56, 48, 56, 49, 56, 50, 56, 51, 56, 52, 56, 53, 56, 54, 56, 55, 56, 56, 56, 57, 57, 48, 57, 49, 57, 50, 57, 51, 57, 52, 57, 53, 57, 54, 57, 55, 57, 56, 57, 57].drop (i_0 * 2).toNat).take (((i_0 * 2) + 2).toNat - (i_0 * 2).toNat)) (fun y14_2 =>
 some y14_2))))))
noncomputable def internal_strconv_FormatInt (i_0 : Int) (base_1 : Int) : Option Str :=
 if base_1 = 10 then (jn (fun (x17_1 : Bool) =>
 if x17_1 = true then ((Sh.internal_strconv_small i_0).bind (fun y19_3 =>
 some y19_3))
 else (none)) (fun k2 => if 0 ≤ i_0 then (k2 (decide (i_0 < 100)))
 else (k2 false)))
 else (none)
noncomputable def internal_strconv_Itoa (i_0 : Int) : Option Str :=
 (Sh.internal_strconv_FormatInt i_0 10).bind (fun y4_1 =>
 some y4_1)
noncomputable def strconv_Itoa (i_0 : Int) : Option Str :=
 (Sh.internal_strconv_Itoa i_0).bind (fun y4_1 =>
 some y4_1)
noncomputable def api_Fault_Error (f_0 : ApiFaultP) (E : Option Str) : Option Str :=
 if f_0.err.isNil = true then (gd (f_0.part.length + [32].length ≤ 9223372036854775807) (
 lt (f_0.part ++ [32]) (fun y12_1 =>
 (Sh.strconv_Itoa f_0.at_).bind (fun y17_2 =>
 gd (y12_1.length + y17_2.length ≤ 9223372036854775807) (
 lt (y12_1 ++ y17_2) (fun y18_3 =>
 some y18_3))))))
 else (gd (f_0.part.length + [32].length ≤ 9223372036854775807) (
 lt (f_0.part ++ [32]) (fun y23_4 =>
 (Sh.strconv_Itoa f_0.at_).bind (fun y28_5 =>
 gd (y23_4.length + y28_5.length ≤ 9223372036854775807) (
 lt (y23_4 ++ y28_5) (fun y29_6 =>
 gd (y29_6.length + [58, 32].length ≤ 9223372036854775807) (
 lt (y29_6 ++ [58, 32]) (fun y30_7 =>
 (E).bind (fun y35_8 =>
 gd (y30_7.length + y35_8.length ≤ 9223372036854775807) (
 lt (y30_7 ++ y35_8) (fun y36_9 =>
 some y36_9)))))))))))
noncomputable def erText : Err → Option Str
  | .nil => none
  | .no n => Sh.api_Errno_Error n
  | .fault p a e => Sh.api_Fault_Error ⟨p, a, e⟩ (erText e)
noncomputable def r3_Decimal_r (n_0 : Int) : Option Str :=
 if n_0 < 0 then (if n_0 = (-9223372036854775808) then (some [45, 57, 50, 50, 51, 51, 55, 50, 48, 51, 54, 56, 53, 52, 55, 55, 53, 56, 48, 56])
 else (gd (I64 (0 - n_0)) (
 none)))
 else (gd ((0 : Int) ≤ n_0 ∧ (10 : Int) ≠ 0) (
 gd (I64 (48 + (n_0 % 10))) (
 gd (0 ≤ (48 + (n_0 % 10)) ∧ (48 + (n_0 % 10)) ≤ 255) (
 gd ((0 : Int) ≤ (48 + (n_0 % 10)) ∧ (48 + (n_0 % 10)) ≤ 255) (
 lt (UInt8.ofNat (48 + (n_0 % 10)).toNat) (fun u16_2 =>
 lt [u16_2] (fun y16_3 =>
 iter (fun ((n0_4, s3_5) : Int × Str) =>
 if 10 ≤ n0_4 then (gd (((0 : Int) ≤ n0_4 ∧ (10 : Int) ≠ 0) ∧ I64 (n0_4 / 10)) (
 gd ((0 : Int) ≤ (n0_4 / 10) ∧ (10 : Int) ≠ 0) (
 gd (I64 (48 + ((n0_4 / 10) % 10))) (
 gd (0 ≤ (48 + ((n0_4 / 10) % 10)) ∧ (48 + ((n0_4 / 10) % 10)) ≤ 255) (
 gd ((0 : Int) ≤ (48 + ((n0_4 / 10) % 10)) ∧ (48 + ((n0_4 / 10) % 10)) ≤ 255) (
 lt (UInt8.ofNat (48 + ((n0_4 / 10) % 10)).toNat) (fun u26_7 =>
 lt [u26_7] (fun y26_8 =>
 gd (y26_8.length + s3_5.length ≤ 9223372036854775807) (
 lt (y26_8 ++ s3_5) (fun y29_9 =>
 go ((n0_4 / 10), y29_9)))))))))))
 else (up (some s3_5))) (n_0, y16_3))))))))
noncomputable def r3_Decimal (n_0 : Int) : Option Str :=
 if n_0 < 0 then (if n_0 = (-9223372036854775808) then (some [45, 57, 50, 50, 51, 51, 55, 50, 48, 51, 54, 56, 53, 52, 55, 55, 53, 56, 48, 56])
 else (gd (I64 (0 - n_0)) (
 (Sh.r3_Decimal_r (0 - n_0)).bind (fun y10_1 =>
 gd ([45].length + y10_1.length ≤ 9223372036854775807) (
 lt ([45] ++ y10_1) (fun y11_2 =>
 some y11_2))))))
 else (gd ((0 : Int) ≤ n_0 ∧ (10 : Int) ≠ 0) (
 gd (I64 (48 + (n_0 % 10))) (
 gd (0 ≤ (48 + (n_0 % 10)) ∧ (48 + (n_0 % 10)) ≤ 255) (
 gd ((0 : Int) ≤ (48 + (n_0 % 10)) ∧ (48 + (n_0 % 10)) ≤ 255) (
 lt (UInt8.ofNat (48 + (n_0 % 10)).toNat) (fun u16_4 =>
 lt [u16_4] (fun y16_5 =>
 iter (fun ((n0_6, s3_7) : Int × Str) =>
 if 10 ≤ n0_6 then (gd (((0 : Int) ≤ n0_6 ∧ (10 : Int) ≠ 0) ∧ I64 (n0_6 / 10)) (
 gd ((0 : Int) ≤ (n0_6 / 10) ∧ (10 : Int) ≠ 0) (
 gd (I64 (48 + ((n0_6 / 10) % 10))) (
 gd (0 ≤ (48 + ((n0_6 / 10) % 10)) ∧ (48 + ((n0_6 / 10) % 10)) ≤ 255) (
 gd ((0 : Int) ≤ (48 + ((n0_6 / 10) % 10)) ∧ (48 + ((n0_6 / 10) % 10)) ≤ 255) (
 lt (UInt8.ofNat (48 + ((n0_6 / 10) % 10)).toNat) (fun u26_9 =>
 lt [u26_9] (fun y26_10 =>
 gd (y26_10.length + s3_7.length ≤ 9223372036854775807) (
 lt (y26_10 ++ s3_7) (fun y29_11 =>
 go ((n0_6 / 10), y29_11)))))))))))
 else (up (some s3_7))) (n_0, y16_5))))))))
noncomputable def r3_Word (e_0 : Int) : Option Str :=
 lt [[111, 107], [97, 114, 103], [102, 111, 114, 109], [115, 104, 111, 114, 116], [108, 111, 110, 103], [110, 97, 109, 101], [116, 119, 105, 99, 101], [115, 116, 97, 116, 101], [100, 105, 114, 116, 121], [99, 111, 110, 102, 108, 105, 99, 116], [115, 97, 109, 101], [119, 97, 121], [115, 117, 109], [100, 111, 119, 110], [113, 117, 111, 116, 97]] (fun y4_2 =>
 jn (fun (x12_3 : Bool) =>
 if x12_3 = true then (some [101, 114, 114, 111, 114])
 else ((at_ y4_2 e_0).bind (fun z15_5 =>
 some z15_5))) (fun k4 => if e_0 < 0 then (k4 true)
 else (k4 (decide ((y4_2.length : Int) ≤ e_0)))))
noncomputable def r3_Words (w_0 : Rectoref3WrongP) : Option Str :=
 iter (fun ((s3_2, i4_3) : Str × Int) =>
 if i4_3 < (w_0.parts.length : Int) then ((at_ w_0.parts i4_3).bind (fun z16_4 =>
 gd (s3_2.length + z16_4.word.length ≤ 9223372036854775807) (
 lt (s3_2 ++ z16_4.word) (fun y19_5 =>
 gd (y19_5.length + [32].length ≤ 9223372036854775807) (
 lt (y19_5 ++ [32]) (fun y20_6 =>
 (at_ w_0.parts i4_3).bind (fun z24_7 =>
 (Sh.r3_Decimal z24_7.at_).bind (fun y27_8 =>
 gd (y20_6.length + y27_8.length ≤ 9223372036854775807) (
 lt (y20_6 ++ y27_8) (fun y28_9 =>
 gd (y28_9.length + [58, 32].length ≤ 9223372036854775807) (
 lt (y28_9 ++ [58, 32]) (fun y29_10 =>
 gd (I64 (i4_3 + 1)) (
 go (y29_10, (i4_3 + 1)))))))))))))))
 else (up ((Sh.r3_Word w_0.err).bind (fun y33_11 =>
 gd (s3_2.length + y33_11.length ≤ 9223372036854775807) (
 lt (s3_2 ++ y33_11) (fun y34_12 =>
 some y34_12)))))) ([], 0)
noncomputable def l2_Tells (err_0 : Err) (w_1 : Rectoref3WrongP) : Option Bool :=
 if w_1.err = 0 then (some (decide (err_0.isNil = true)))
 else (jn (fun (x27_2 : Bool) =>
 if x27_2 = true then (some false)
 else (if (w_1.parts.length : Int) = 0 then (some true)
 else ((match err_0 with
 | .fault ep7 ea7 ez7 => ((at_ w_1.parts 0).bind (fun z46_8 =>
 if ep7 = z46_8.word then ((at_ w_1.parts 0).bind (fun z57_9 =>
 some (decide (ea7 = z57_9.at_))))
 else (some false)))
 | _ => none)))) (fun k3 => if err_0.isNil = true then (k3 true)
 else ((Sh.erText err_0).bind (fun y15_4 =>
 (Sh.r3_Words w_1).bind (fun y17_5 =>
 if y15_4 = y17_5 then (k3 (!decide (endNo err_0 = some w_1.err)))
 else (k3 true))))))
noncomputable def r14_Same (a_0 : List Rectoref14File) (b_1 : List Rectoref14File) : Option Bool :=
 if (a_0.length : Int) = (b_1.length : Int) then (iter (fun (i5_1 : Int) =>
 if i5_1 < (a_0.length : Int) then ((at_ a_0 i5_1).bind (fun z19_2 =>
 (at_ b_1 i5_1).bind (fun z23_3 =>
 if z19_2.path = z23_3.path ∧ z19_2.mode = z23_3.mode ∧ z19_2.data = z23_3.data then (gd (I64 (i5_1 + 1)) (
 go (i5_1 + 1)))
 else (up (some false)))))
 else (up (some true))) 0)
 else (some false)
noncomputable def l15_Of (l_0 : List IndexEntry) : Option (List Rectoref14Entry) :=
 iter (fun ((out3_1, i4_2) : List Rectoref14Entry × Int) =>
 if i4_2 < (l_0.length : Int) then ((at_ l_0 i4_2).bind (fun z14_3 =>
 lt [⟨z14_3.path, z14_3.stage, z14_3.mode, z14_3.data, z14_3.time, z14_3.size⟩] (fun y30_6 =>
 gd (out3_1.length + y30_6.length ≤ 4294967296) (
 lt (out3_1 ++ y30_6) (fun y31_8 =>
 gd (I64 (i4_2 + 1)) (
 go (y31_8, (i4_2 + 1))))))))
 else (up (some out3_1))) ([], 0)
noncomputable def l15_All (a_0 : List IndexEntry) (b_1 : List Rectoref14Entry) : Option Bool :=
 (Sh.l15_Of a_0).bind (fun y8_1 =>
 if (y8_1.length : Int) = (b_1.length : Int) then (iter (fun (i6_2 : Int) =>
 if i6_2 < (y8_1.length : Int) then ((at_ y8_1 i6_2).bind (fun z22_3 =>
 (at_ b_1 i6_2).bind (fun z26_4 =>
 if z22_3.path = z26_4.path ∧ z22_3.stage = z26_4.stage ∧ z22_3.mode = z26_4.mode ∧ z22_3.data = z26_4.data ∧ z22_3.time = z26_4.time ∧ z22_3.size = z26_4.size then (gd (I64 (i6_2 + 1)) (
 go (i6_2 + 1)))
 else (up (some false)))))
 else (up (some true))) 0)
 else (some false))
noncomputable def l1_texts (a_0 : List Str) (b_1 : List Str) : Option Bool :=
 if (a_0.length : Int) = (b_1.length : Int) then (iter (fun (i5_1 : Int) =>
 if i5_1 < (a_0.length : Int) then ((at_ a_0 i5_1).bind (fun z19_2 =>
 (at_ b_1 i5_1).bind (fun z23_3 =>
 if z19_2 = z23_3 then (gd (I64 (i5_1 + 1)) (
 go (i5_1 + 1)))
 else (up (some false)))))
 else (up (some true))) 0)
 else (some false)
noncomputable def l1_Texts (a_0 : List Str) (b_1 : List Str) : Option Bool :=
 (Sh.l1_texts a_0 b_1).bind (fun y7_1 =>
 some y7_1)
noncomputable def l16_Result (a_0 : TmergeResultP) (b_1 : Rectoref14ResultP) : Option Bool :=
 (Sh.l14_Of a_0.files).bind (fun y7_3 =>
 (Sh.r14_Same y7_3 b_1.files).bind (fun y10_4 =>
 if y10_4 = true then ((Sh.l15_All a_0.entries b_1.entries).bind (fun y16_5 =>
 if y16_5 = true then ((Sh.l1_Texts a_0.conflicts b_1.conflicts).bind (fun y23_6 =>
 some y23_6))
 else (some false)))
 else (some false)))
noncomputable def l16_TreesMerge (b_0 : List FilesFile) (o_1 : List FilesFile) (t_2 : List FilesFile) (x_3 : Str) (y_4 : Str) : Option Bool :=
 (Sh.l16_known).bind (fun y15_1 =>
 if (!y15_1) = true then (some false)
 else (jn (fun (x54_2 : Bool) =>
 if x54_2 = true then (some true)
 else ((Sh.tmerge_Merge b_0 o_1 t_2 x_3 y_4).bind (fun y61_10 =>
 (Sh.l14_Of b_0).bind (fun y66_12 =>
 (Sh.l14_Of o_1).bind (fun y68_13 =>
 (Sh.l14_Of t_2).bind (fun y70_14 =>
 (Sh.r14_Merge y66_12 y68_13 y70_14 x_3 y_4).bind (fun y73_15 =>
 (Sh.l2_Tells y61_10.2 y73_15.2).bind (fun y78_18 =>
 if y78_18 = true then ((Sh.l16_Result (⟨y61_10.1.files, y61_10.1.entries, y61_10.1.conflicts⟩ : TmergeResultP) (⟨y73_15.1.files, y73_15.1.entries, y73_15.1.conflicts⟩ : Rectoref14ResultP)).bind (fun y82_19 =>
 some y82_19))
 else (some false))))))))) (fun k3 => (Sh.l14_Few b_0).bind (fun y18_4 =>
 if (!y18_4) = true then (k3 true)
 else ((Sh.l14_Few o_1).bind (fun y22_5 =>
 if (!y22_5) = true then (k3 true)
 else ((Sh.l14_Few t_2).bind (fun y27_6 =>
 if (!y27_6) = true then (k3 true)
 else ((Sh.l16_short b_0).bind (fun y32_7 =>
 if (!y32_7) = true then (k3 true)
 else ((Sh.l16_short o_1).bind (fun y37_8 =>
 if (!y37_8) = true then (k3 true)
 else ((Sh.l16_short t_2).bind (fun y42_9 =>
 if (!y42_9) = true then (k3 true)
 else (if 50 < (x_3.length : Int) then (k3 true)
 else (k3 (decide (50 < (y_4.length : Int)))))))))))))))))))
end Go.S.Sh
end

section
namespace Go.Proofs
open Go.Shelf
def Tryz.lays156_ren : Go.Shelf.Ren := ⟨fun | 156 => 231 | 165 => 267 | 166 => 182 | 169 => 185 | 240 => 229 | 241 => 293 | 276 => 265 | 277 => 306 | n => n, fun | 31 => 82 | 9 => 9 | 3 => 3 | 4 => 4 | 0 => 0 | 20 => 20 | 72 => 259 | 76 => 30 | 70 => 257 | 37 => 27 | 75 => 29 | 127 => 313 | 164 => 207 | 5 => 5 | 80 => 131 | n => n, fun | n => n⟩
theorem Tryz.lays156 : Go.Proofs.Lays.n156 Tryz.prog Tryz.lays156_ren := {
  mixed := by kernel_rfl
  f156 := Tryz.func231.trans (congrArg some (by kernel_rfl))
  f165 := Tryz.func267.trans (congrArg some (by kernel_rfl))
  f166 := Tryz.func182.trans (congrArg some (by kernel_rfl))
  f169 := Tryz.func185.trans (congrArg some (by kernel_rfl))
  f240 := Tryz.func229.trans (congrArg some (by kernel_rfl))
  f241 := Tryz.func293.trans (congrArg some (by kernel_rfl))
  f276 := Tryz.func265.trans (congrArg some (by kernel_rfl))
  f277 := Tryz.func306.trans (congrArg some (by kernel_rfl))
  t0 := Tryz.underlying0
  a0 := Tryz.isAgg0
  z0 := Tryz.sizeOf0
  v0 := Tryz.zeroValue0
  t3 := Tryz.underlying3
  a3 := Tryz.isAgg3
  z3 := Tryz.sizeOf3
  v3 := Tryz.zeroValue3
  t4 := Tryz.underlying4
  a4 := Tryz.isAgg4
  z4 := Tryz.sizeOf4
  v4 := Tryz.zeroValue4
  t9 := Tryz.underlying9
  a9 := Tryz.isAgg9
  z9 := Tryz.sizeOf9
  v9 := Tryz.zeroValue9
  t20 := Tryz.underlying20
  a20 := Tryz.isAgg20
  z20 := Tryz.sizeOf20
  v20 := Tryz.zeroValue20
  t31 := Tryz.underlying82
  a31 := Tryz.isAgg82
  z31 := Tryz.sizeOf82
  v31 := Tryz.zeroValue82
  t37 := Tryz.underlying27
  a37 := Tryz.isAgg27
  z37 := Tryz.sizeOf27
  v37 := Tryz.zeroValue27
  t70 := Tryz.underlying257
  a70 := Tryz.isAgg257
  z70 := Tryz.sizeOf257
  v70 := Tryz.zeroValue257
  t72 := Tryz.underlying259
  a72 := Tryz.isAgg259
  z72 := Tryz.sizeOf259
  v72 := Tryz.zeroValue259
  t75 := Tryz.underlying29
  a75 := Tryz.isAgg29
  z75 := Tryz.sizeOf29
  v75 := Tryz.zeroValue29
  t76 := Tryz.underlying30
  a76 := Tryz.isAgg30
  z76 := Tryz.sizeOf30
  v76 := Tryz.zeroValue30
  t127 := Tryz.underlying313
  a127 := Tryz.isAgg313
  z127 := Tryz.sizeOf313
  v127 := Tryz.zeroValue313
  t164 := Tryz.underlying207
  a164 := Tryz.isAgg207
  z164 := Tryz.sizeOf207
  v164 := Tryz.zeroValue207 }
theorem Tryz.Builder_Extra_156 : Builder.Extra Tryz.prog Tryz.lays156_ren := {
  sizeBuilder := by kernel_rfl
  liesBuilder := by kernel_rfl
  t5 := Tryz.underlying5
  a5 := Tryz.isAgg5
  z5 := Tryz.sizeOf5
  v5 := Tryz.zeroValue5
  infoByte := by kernel_rfl
  cellsByte := by kernel_rfl
  sizeByte := by kernel_rfl
  neB5 := by decide }
open Go.RowKit in
/-- No element: the empty string; the world is as it was. (Whatever the slice's address and capacity: a nil slice too.) (LAID: no walk: one application.) -/
theorem Tryz.strings_Join_none (a : Option Addr) (c : Nat) (sep : ByteArray) (w : World) :
    Calls Tryz.prog 231 #[.slice a 0 c, .string sep] w fun e w' => e = .returned (.string ⟨#[]⟩) ∧ w' = w := Any.strings_Join_none Tryz.lays156 Tryz.Builder_Extra_156 a c sep w
open Go.RowKit in
/-- strings.Join: "Join concatenates the elements of its first argument to create a single string. The separator string sep is placed between elements in the resulting string.": HOWEVER MANY ELEMENTS. Below the heap's end the world is as it was. (LAID: no walk: one application.) -/
theorem Tryz.strings_Join (bk o c : Nat) (xs : List ByteArray) (sep : ByteArray) (w : World) (hcells : ∀ (j : Nat) x, xs[j]? = some x → w.cell? ⟨bk, o + j, none⟩ = some (.string x)) (hbk : bk < w.heap.size) (hN : xs.length ≤ 140737488355328) (hcap : xs.length ≤ c) (hlen : (Lib.join (xs.map (·.data.toList)) sep.data.toList).length ≤ 140737488355328) :
    Calls Tryz.prog 231 #[.slice (some ⟨bk, o, none⟩) xs.length c, .string sep] w fun e w' => e = .returned (.string ⟨(Lib.join (xs.map (·.data.toList)) sep.data.toList).toArray⟩) ∧ Below w.heap.size w w' := Any.strings_Join Tryz.lays156 Tryz.Builder_Extra_156 bk o c xs sep w hcells hbk hN hcap hlen
def Tryz.laysM171_ren : Go.Shelf.Ren := ⟨fun | 171 => 327 | 243 => 328 | 246 => 329 | 283 => 330 | 284 => 331 | 285 => 332 | 286 => 333 | 129 => 214 | 317 => 334 | 318 => 335 | 319 => 336 | 320 => 337 | 337 => 338 | 338 => 339 | n => n, fun | 3 => 3 | 9 => 9 | 2 => 2 | 4 => 4 | 171 => 400 | 0 => 0 | 53 => 231 | 37 => 27 | 5 => 5 | 173 => 402 | 212 => 405 | 51 => 233 | 20 => 20 | 213 => 406 | 46 => 232 | 232 => 407 | 233 => 408 | n => n, fun | 17 => 4 | 18 => 5 | 19 => 6 | n => n⟩
theorem Tryz.laysM171 : Go.Proofs.LaysM.n171 Tryz.prog Tryz.laysM171_ren := {
  mixed := by kernel_rfl
  f129 := Tryz.func214.trans (congrArg some (by kernel_rfl))
  f171 := Tryz.func327.trans (congrArg some (by kernel_rfl))
  f243 := Tryz.func328.trans (congrArg some (by kernel_rfl))
  f246 := Tryz.func329.trans (congrArg some (by kernel_rfl))
  f283 := Tryz.func330.trans (congrArg some (by kernel_rfl))
  f284 := Tryz.func331.trans (congrArg some (by kernel_rfl))
  f285 := Tryz.func332.trans (congrArg some (by kernel_rfl))
  f286 := Tryz.func333.trans (congrArg some (by kernel_rfl))
  f317 := Tryz.func334.trans (congrArg some (by kernel_rfl))
  f318 := Tryz.func335.trans (congrArg some (by kernel_rfl))
  f319 := Tryz.func336.trans (congrArg some (by kernel_rfl))
  f320 := Tryz.func337.trans (congrArg some (by kernel_rfl))
  f337 := Tryz.func338.trans (congrArg some (by kernel_rfl))
  f338 := Tryz.func339.trans (congrArg some (by kernel_rfl))
  t0 := Tryz.underlying0
  a0 := Tryz.isAgg0
  z0 := Tryz.sizeOf0
  v0 := Tryz.zeroValue0
  t2 := Tryz.underlying2
  a2 := Tryz.isAgg2
  z2 := Tryz.sizeOf2
  v2 := Tryz.zeroValue2
  t3 := Tryz.underlying3
  a3 := Tryz.isAgg3
  z3 := Tryz.sizeOf3
  v3 := Tryz.zeroValue3
  t4 := Tryz.underlying4
  a4 := Tryz.isAgg4
  z4 := Tryz.sizeOf4
  v4 := Tryz.zeroValue4
  t5 := Tryz.underlying5
  a5 := Tryz.isAgg5
  z5 := Tryz.sizeOf5
  v5 := Tryz.zeroValue5
  t9 := Tryz.underlying9
  a9 := Tryz.isAgg9
  z9 := Tryz.sizeOf9
  v9 := Tryz.zeroValue9
  t20 := Tryz.underlying20
  a20 := Tryz.isAgg20
  z20 := Tryz.sizeOf20
  v20 := Tryz.zeroValue20
  t37 := Tryz.underlying27
  a37 := Tryz.isAgg27
  z37 := Tryz.sizeOf27
  v37 := Tryz.zeroValue27
  t46 := Tryz.underlying232
  a46 := Tryz.isAgg232
  z46 := Tryz.sizeOf232
  v46 := Tryz.zeroValue232
  t51 := Tryz.underlying233
  a51 := Tryz.isAgg233
  z51 := Tryz.sizeOf233
  v51 := Tryz.zeroValue233
  t53 := Tryz.underlying231
  a53 := Tryz.isAgg231
  z53 := Tryz.sizeOf231
  v53 := Tryz.zeroValue231
  t171 := Tryz.underlying400
  a171 := Tryz.isAgg400
  z171 := Tryz.sizeOf400
  v171 := Tryz.zeroValue400
  t173 := Tryz.underlying402
  a173 := Tryz.isAgg402
  z173 := Tryz.sizeOf402
  v173 := Tryz.zeroValue402
  t212 := Tryz.underlying405
  a212 := Tryz.isAgg405
  z212 := Tryz.sizeOf405
  v212 := Tryz.zeroValue405
  t213 := Tryz.underlying406
  a213 := Tryz.isAgg406
  z213 := Tryz.sizeOf406
  t232 := Tryz.underlying407
  a232 := Tryz.isAgg407
  z232 := Tryz.sizeOf407
  v232 := Tryz.zeroValue407
  t233 := Tryz.underlying408
  a233 := Tryz.isAgg408
  z233 := Tryz.sizeOf408
  v233 := Tryz.zeroValue408
  g17 := by kernel_rfl
  g18 := by kernel_rfl
  g19 := by kernel_rfl
  i0 := by kernel_rfl
  i2 := by kernel_rfl
  i3 := by kernel_rfl
  i4 := by kernel_rfl
  i5 := by kernel_rfl
  i9 := by kernel_rfl
  i20 := by kernel_rfl
  i37 := by kernel_rfl
  i46 := by kernel_rfl
  i51 := by kernel_rfl
  i53 := by kernel_rfl
  i171 := by kernel_rfl
  i173 := by kernel_rfl
  i212 := by kernel_rfl
  i232 := by kernel_rfl
  i233 := by kernel_rfl
  m17 := by kernel_rfl
  m18 := by kernel_rfl
  m19 := by kernel_rfl }
open Go.RowKit Go.Sort Go.Lib in
/-- strconv.Itoa: "Itoa is equivalent to FormatInt(int64(i), 10).": i's DECIMAL NUMERAL ('Lib.itoa': a '-' where i is negative, then the digits), FOR EVERY int. The world behind the call: the world before it, new blocks behind the heap (the library's 'var a [24]byte'), draws. (LAID: no walk: one application.) -/
theorem Tryz.strconv_Itoa (n : Int) (h0 : -9223372036854775808 ≤ n) (h1 : n ≤ 9223372036854775807) (w : World) (htab : Lib.TabIs Tryz.prog w "internal/strconv.uint64pow10" .u64 Lib.pow10Tab) :
    Calls Tryz.prog 327 #[.int .i64 n] w fun e w' => e = .returned (.string ⟨(Lib.itoa n).toArray⟩) ∧ ∃ k os, w' = grow (w.drewN k) os := Any.strconv_Itoa Tryz.laysM171 n h0 h1 w htab
def Tryz.lays190_ren : Go.Shelf.Ren := ⟨fun | 190 => 102 | 125 => 169 | 258 => 168 | 128 => 213 | 129 => 214 | 302 => 204 | 303 => 205 | 304 => 206 | 305 => 207 | 306 => 208 | 307 => 209 | 308 => 210 | 309 => 211 | 310 => 212 | 333 => 241 | 329 => 242 | 330 => 243 | 334 => 244 | 335 => 245 | 336 => 223 | 344 => 272 | n => n, fun | 31 => 82 | 9 => 9 | 3 => 3 | 46 => 232 | 0 => 0 | 51 => 233 | 53 => 231 | 4 => 4 | 183 => 292 | 182 => 291 | 131 => 99 | 5 => 5 | 218 => 322 | 222 => 326 | 228 => 352 | 229 => 353 | n => n, fun | n => n⟩
theorem Tryz.lays190 : Go.Proofs.Lays.n190 Tryz.prog Tryz.lays190_ren := {
  mixed := by kernel_rfl
  f125 := Tryz.func169.trans (congrArg some (by kernel_rfl))
  f128 := Tryz.func213.trans (congrArg some (by kernel_rfl))
  f129 := Tryz.func214.trans (congrArg some (by kernel_rfl))
  f190 := Tryz.func102.trans (congrArg some (by kernel_rfl))
  f258 := Tryz.func168.trans (congrArg some (by kernel_rfl))
  f302 := Tryz.func204.trans (congrArg some (by kernel_rfl))
  f303 := Tryz.func205.trans (congrArg some (by kernel_rfl))
  f304 := Tryz.func206.trans (congrArg some (by kernel_rfl))
  f305 := Tryz.func207.trans (congrArg some (by kernel_rfl))
  f306 := Tryz.func208.trans (congrArg some (by kernel_rfl))
  f307 := Tryz.func209.trans (congrArg some (by kernel_rfl))
  f308 := Tryz.func210.trans (congrArg some (by kernel_rfl))
  f309 := Tryz.func211.trans (congrArg some (by kernel_rfl))
  f310 := Tryz.func212.trans (congrArg some (by kernel_rfl))
  f329 := Tryz.func242.trans (congrArg some (by kernel_rfl))
  f330 := Tryz.func243.trans (congrArg some (by kernel_rfl))
  f333 := Tryz.func241.trans (congrArg some (by kernel_rfl))
  f334 := Tryz.func244.trans (congrArg some (by kernel_rfl))
  f335 := Tryz.func245.trans (congrArg some (by kernel_rfl))
  f336 := Tryz.func223.trans (congrArg some (by kernel_rfl))
  f344 := Tryz.func272.trans (congrArg some (by kernel_rfl))
  t0 := Tryz.underlying0
  a0 := Tryz.isAgg0
  z0 := Tryz.sizeOf0
  v0 := Tryz.zeroValue0
  t3 := Tryz.underlying3
  a3 := Tryz.isAgg3
  z3 := Tryz.sizeOf3
  v3 := Tryz.zeroValue3
  t4 := Tryz.underlying4
  a4 := Tryz.isAgg4
  z4 := Tryz.sizeOf4
  v4 := Tryz.zeroValue4
  t5 := Tryz.underlying5
  a5 := Tryz.isAgg5
  z5 := Tryz.sizeOf5
  v5 := Tryz.zeroValue5
  t9 := Tryz.underlying9
  a9 := Tryz.isAgg9
  z9 := Tryz.sizeOf9
  v9 := Tryz.zeroValue9
  t31 := Tryz.underlying82
  a31 := Tryz.isAgg82
  z31 := Tryz.sizeOf82
  v31 := Tryz.zeroValue82
  t46 := Tryz.underlying232
  a46 := Tryz.isAgg232
  z46 := Tryz.sizeOf232
  v46 := Tryz.zeroValue232
  t51 := Tryz.underlying233
  a51 := Tryz.isAgg233
  z51 := Tryz.sizeOf233
  v51 := Tryz.zeroValue233
  t53 := Tryz.underlying231
  a53 := Tryz.isAgg231
  z53 := Tryz.sizeOf231
  v53 := Tryz.zeroValue231
  t131 := Tryz.underlying99
  a131 := Tryz.isAgg99
  z131 := Tryz.sizeOf99
  v131 := Tryz.zeroValue99
  t182 := Tryz.underlying291
  a182 := Tryz.isAgg291
  z182 := Tryz.sizeOf291
  v182 := Tryz.zeroValue291
  t183 := Tryz.underlying292
  a183 := Tryz.isAgg292
  z183 := Tryz.sizeOf292
  v183 := Tryz.zeroValue292
  t218 := Tryz.underlying322
  a218 := Tryz.isAgg322
  z218 := Tryz.sizeOf322
  v218 := Tryz.zeroValue322
  t222 := Tryz.underlying326
  a222 := Tryz.isAgg326
  z222 := Tryz.sizeOf326
  v222 := Tryz.zeroValue326
  t228 := Tryz.underlying352
  a228 := Tryz.isAgg352
  z228 := Tryz.sizeOf352
  v228 := Tryz.zeroValue352
  t229 := Tryz.underlying353
  a229 := Tryz.isAgg353
  z229 := Tryz.sizeOf353
  v229 := Tryz.zeroValue353 }
open Go.Sort Go.RowKit in
theorem Tryz.slices_Sort_string (blk off cap : Nat) (ss : List (List UInt8)) (w : World) (hH : Holds encStr w blk off ss.toArray) (hblk : blk < w.heap.size) (hsz : ss.length < 4611686018427387904) :
    Calls Tryz.prog 102 #[.slice (some ⟨blk, off, none⟩) ss.length cap] w fun e w' =>
      e = .returned (.tuple #[]) ∧ ∃ n os, w' = grow (putRow encStr (Sort.ahead w n) blk off (ss.mergeSort fun x y => decide (x ≤ y)).toArray) os := Any.slices_Sort_string Tryz.lays190 blk off cap ss w hH hblk hsz
def Tryz.lays194_ren : Go.Shelf.Ren := ⟨fun | 194 => 104 | n => n, fun | 31 => 82 | 9 => 9 | 3 => 3 | 4 => 4 | 0 => 0 | n => n, fun | n => n⟩
theorem Tryz.lays194 : Go.Proofs.Lays.n194 Tryz.prog Tryz.lays194_ren := {
  mixed := by kernel_rfl
  f194 := Tryz.func104.trans (congrArg some (by kernel_rfl))
  t0 := Tryz.underlying0
  a0 := Tryz.isAgg0
  z0 := Tryz.sizeOf0
  v0 := Tryz.zeroValue0
  t3 := Tryz.underlying3
  a3 := Tryz.isAgg3
  z3 := Tryz.sizeOf3
  v3 := Tryz.zeroValue3
  t4 := Tryz.underlying4
  a4 := Tryz.isAgg4
  z4 := Tryz.sizeOf4
  v4 := Tryz.zeroValue4
  t9 := Tryz.underlying9
  a9 := Tryz.isAgg9
  z9 := Tryz.sizeOf9
  v9 := Tryz.zeroValue9
  t31 := Tryz.underlying82
  a31 := Tryz.isAgg82
  z31 := Tryz.sizeOf82
  v31 := Tryz.zeroValue82 }
open Go.RowKit Go.Lib Go.Sort in
/-- slices.Compact at []string, over an array: the library's two loops are walked. (LAID: no walk: one application.) -/
theorem Tryz.slices_Compact_string_arr (blk off cap : Nat) (d : Array (List UInt8)) (w : World) (hH : Holds encStr w blk off d) (hsz : d.size ≤ 9223372036854775807) (hcap : d.size ≤ cap) :
    Calls Tryz.prog 104 #[.slice (some ⟨blk, off, none⟩) d.size cap] w fun e w' => e = .returned (.slice (some ⟨blk, off, none⟩) (compactUpTo d d.size).length cap) ∧ ∃ q, w' = putRow encStr (Sort.ahead w q) blk off (compactUpTo d d.size ++ List.replicate (d.size - (compactUpTo d d.size).length) []).toArray := Any.slices_Compact_string_arr Tryz.lays194 blk off cap d w hH hsz hcap
open Go.RowKit Go.Lib Go.Sort in
/-- slices.Compact at []string: "Compact replaces consecutive runs of equal elements with a single copy. This is like the uniq command found on Unix. Compact modifies the contents of the slice s and returns the modified slice, which may have a smaller length. Compact zeroes the elements between the new length and the original length. The result preserves the nilness of s.": IT RETURNS THE SLICE CUT TO 'Lib.compact zs'; ITS CELLS HOLD 'Lib.compact zs', THEN ZERO VALUES up to the old length; all else is as it was, but for the count of draws. IN THE WORDS OF slices.Sort's CONTRACT ('Holds', 'putRow'): so the everyday 'slices.Sort(xs); xs = slices.Compact(xs)' goes from the one contract to the other. It asks 'zs.length ≤ cap' (every slice's: the reslicing 's[:k]' looks at it). Length 0, nil: '.._empty'. (LAID: no walk: one application.) -/
theorem Tryz.slices_Compact_string (blk off cap : Nat) (zs : List (List UInt8)) (w : World) (hH : Holds encStr w blk off zs.toArray) (hsz : zs.length ≤ 9223372036854775807) (hcap : zs.length ≤ cap) :
    Calls Tryz.prog 104 #[.slice (some ⟨blk, off, none⟩) zs.length cap] w fun e w' => e = .returned (.slice (some ⟨blk, off, none⟩) (Lib.compact zs).length cap) ∧ ∃ q, w' = putRow encStr (Sort.ahead w q) blk off (Lib.compact zs ++ List.replicate (zs.length - (Lib.compact zs).length) []).toArray := Any.slices_Compact_string Tryz.lays194 blk off cap zs w hH hsz hcap
open Go.RowKit Go.Lib Go.Sort in
/-- The same at a slice of length 0, a nil one too: it comes back as it is. (LAID: no walk: one application.) -/
theorem Tryz.slices_Compact_string_empty (a : Option Addr) (cap : Nat) (w : World) :
    Calls Tryz.prog 104 #[.slice a 0 cap] w fun e w' => e = .returned (.slice a 0 cap) ∧ w' = w := Any.slices_Compact_string_empty Tryz.lays194 a cap w
open Go.RowKit Go.Sort in
/-- .. and plain. (LAID: no walk: one application.) -/
theorem Tryz.slices_Sort_string_none (p : Option Addr) (cap : Nat) (w : World) :
    Calls Tryz.prog 102 #[.slice p 0 cap] w fun e w' => e = .returned (.tuple #[]) ∧ w' = w := Any.slices_Sort_string_none Tryz.lays190 p cap w
end Go.Proofs
end

section
namespace Go.Proofs
open Go.Shelf
def Tryz.keys131_ren : Go.Shelf.Ren := ⟨fun | 7 => 131 | 10 => 191 | n => n, fun | 23 => 196 | 26 => 9 | 3 => 4 | 28 => 199 | 0 => 0 | 27 => 198 | 33 => 252 | 4 => 4 | n => n, fun | n => n⟩
theorem Tryz.keys131 : Go.Proofs.SlLaysZ.n7 Tryz.prog Tryz.keys131_ren := {
  mixed := by kernel_rfl
  f7 := ⟨Tryz.f131.name, by decide, Tryz.func131.trans (congrArg some (by kernel_rfl))⟩
  f10 := ⟨Tryz.f191.name, by decide, Tryz.func191.trans (congrArg some (by kernel_rfl))⟩
  t0 := Tryz.underlying0
  a0 := Tryz.isAgg0
  z0 := Tryz.sizeOf0
  v0 := Tryz.zeroValue0
  t4 := Tryz.underlying4
  a4 := Tryz.isAgg4
  z4 := Tryz.sizeOf4
  v4 := Tryz.zeroValue4
  t23 := Tryz.underlying196
  a23 := Tryz.isAgg196
  z23 := Tryz.sizeOf196
  v23 := Tryz.zeroValue196
  t26 := Tryz.underlying9
  a26 := Tryz.isAgg9
  z26 := Tryz.sizeOf9
  v26 := Tryz.zeroValue9
  t27 := Tryz.underlying198
  a27 := Tryz.isAgg198
  z27 := Tryz.sizeOf198
  v27 := Tryz.zeroValue198
  t28 := Tryz.underlying199
  a28 := Tryz.isAgg199
  z28 := Tryz.sizeOf199
  v28 := Tryz.zeroValue199
  t33 := Tryz.underlying252
  a33 := Tryz.isAgg252
  z33 := Tryz.sizeOf252
  v33 := Tryz.zeroValue252 }
def Tryz.sorted130_ren : Go.Shelf.Ren := ⟨fun | 6 => 130 | 8 => 190 | 9 => 102 | 11 => 236 | 13 => 169 | 12 => 168 | 23 => 213 | 24 => 214 | 14 => 204 | 15 => 205 | 16 => 206 | 17 => 207 | 18 => 208 | 19 => 209 | 20 => 210 | 21 => 211 | 22 => 212 | 25 => 241 | 26 => 242 | 27 => 243 | 28 => 244 | 29 => 245 | 30 => 223 | 31 => 272 | n => n, fun | 26 => 9 | 28 => 199 | 24 => 82 | 0 => 0 | 3 => 3 | 37 => 232 | 48 => 233 | 50 => 231 | 4 => 4 | 40 => 292 | 39 => 291 | 45 => 99 | 5 => 5 | 9 => 9 | 51 => 322 | 55 => 326 | 57 => 352 | 58 => 353 | 33 => 252 | n => n, fun | n => n⟩
theorem Tryz.sorted130 : Go.Proofs.SlLaysZ.n6 Tryz.prog Tryz.sorted130_ren := {
  mixed := by kernel_rfl
  f6 := ⟨Tryz.f130.name, by decide, Tryz.func130.trans (congrArg some (by kernel_rfl))⟩
  f8 := ⟨Tryz.f190.name, by decide, Tryz.func190.trans (congrArg some (by kernel_rfl))⟩
  f11 := ⟨Tryz.f236.name, by decide, Tryz.func236.trans (congrArg some (by kernel_rfl))⟩
  t0 := Tryz.underlying0
  a0 := Tryz.isAgg0
  z0 := Tryz.sizeOf0
  v0 := Tryz.zeroValue0
  t24 := Tryz.underlying82
  a24 := Tryz.isAgg82
  z24 := Tryz.sizeOf82
  v24 := Tryz.zeroValue82
  t26 := Tryz.underlying9
  a26 := Tryz.isAgg9
  z26 := Tryz.sizeOf9
  v26 := Tryz.zeroValue9
  t28 := Tryz.underlying199
  a28 := Tryz.isAgg199
  z28 := Tryz.sizeOf199
  v28 := Tryz.zeroValue199
  i26 := by kernel_rfl }
def Tryz.sort102_ren : Go.Shelf.Ren := ⟨fun | 6 => 102 | 8 => 169 | 9 => 168 | 19 => 213 | 20 => 214 | 21 => 204 | 22 => 205 | 23 => 206 | 24 => 207 | 25 => 208 | 26 => 209 | 27 => 210 | 28 => 211 | 29 => 212 | 36 => 241 | 31 => 242 | 32 => 243 | 37 => 244 | 38 => 245 | 39 => 223 | 41 => 272 | n => n, fun | 27 => 82 | 29 => 9 | 3 => 3 | 32 => 232 | 26 => 82 | 0 => 0 | 44 => 233 | 46 => 231 | 4 => 4 | 36 => 292 | 35 => 291 | 41 => 99 | 5 => 5 | 9 => 9 | 53 => 322 | 57 => 326 | 63 => 352 | 64 => 353 | n => n, fun | n => n⟩
theorem Tryz.sort102 : Go.Proofs.SlLaysM.n6 Tryz.prog Tryz.sort102_ren := {
  mixed := by kernel_rfl
  f6 := ⟨Tryz.f102.name, by decide, Tryz.func102.trans (congrArg some (by kernel_rfl))⟩
  f8 := Tryz.func169.trans (congrArg some (by kernel_rfl))
  f9 := ⟨Tryz.f168.name, by decide, Tryz.func168.trans (congrArg some (by kernel_rfl))⟩
  f19 := Tryz.func213.trans (congrArg some (by kernel_rfl))
  f20 := Tryz.func214.trans (congrArg some (by kernel_rfl))
  f21 := ⟨Tryz.f204.name, by decide, Tryz.func204.trans (congrArg some (by kernel_rfl))⟩
  f22 := ⟨Tryz.f205.name, by decide, Tryz.func205.trans (congrArg some (by kernel_rfl))⟩
  f23 := ⟨Tryz.f206.name, by decide, Tryz.func206.trans (congrArg some (by kernel_rfl))⟩
  f24 := ⟨Tryz.f207.name, by decide, Tryz.func207.trans (congrArg some (by kernel_rfl))⟩
  f25 := ⟨Tryz.f208.name, by decide, Tryz.func208.trans (congrArg some (by kernel_rfl))⟩
  f26 := ⟨Tryz.f209.name, by decide, Tryz.func209.trans (congrArg some (by kernel_rfl))⟩
  f27 := ⟨Tryz.f210.name, by decide, Tryz.func210.trans (congrArg some (by kernel_rfl))⟩
  f28 := ⟨Tryz.f211.name, by decide, Tryz.func211.trans (congrArg some (by kernel_rfl))⟩
  f29 := ⟨Tryz.f212.name, by decide, Tryz.func212.trans (congrArg some (by kernel_rfl))⟩
  f31 := Tryz.func242.trans (congrArg some (by kernel_rfl))
  f32 := Tryz.func243.trans (congrArg some (by kernel_rfl))
  f36 := ⟨Tryz.f241.name, by decide, Tryz.func241.trans (congrArg some (by kernel_rfl))⟩
  f37 := ⟨Tryz.f244.name, by decide, Tryz.func244.trans (congrArg some (by kernel_rfl))⟩
  f38 := ⟨Tryz.f245.name, by decide, Tryz.func245.trans (congrArg some (by kernel_rfl))⟩
  f39 := ⟨Tryz.f223.name, by decide, Tryz.func223.trans (congrArg some (by kernel_rfl))⟩
  f41 := ⟨Tryz.f272.name, by decide, Tryz.func272.trans (congrArg some (by kernel_rfl))⟩
  t0 := Tryz.underlying0
  a0 := Tryz.isAgg0
  z0 := Tryz.sizeOf0
  v0 := Tryz.zeroValue0
  t3 := Tryz.underlying3
  a3 := Tryz.isAgg3
  z3 := Tryz.sizeOf3
  v3 := Tryz.zeroValue3
  t4 := Tryz.underlying4
  a4 := Tryz.isAgg4
  z4 := Tryz.sizeOf4
  v4 := Tryz.zeroValue4
  t5 := Tryz.underlying5
  a5 := Tryz.isAgg5
  z5 := Tryz.sizeOf5
  v5 := Tryz.zeroValue5
  t9 := Tryz.underlying9
  a9 := Tryz.isAgg9
  z9 := Tryz.sizeOf9
  v9 := Tryz.zeroValue9
  t26 := Tryz.underlying82
  a26 := Tryz.isAgg82
  z26 := Tryz.sizeOf82
  v26 := Tryz.zeroValue82
  t27 := Tryz.underlying82
  a27 := Tryz.isAgg82
  z27 := Tryz.sizeOf82
  v27 := Tryz.zeroValue82
  t29 := Tryz.underlying9
  a29 := Tryz.isAgg9
  z29 := Tryz.sizeOf9
  v29 := Tryz.zeroValue9
  t32 := Tryz.underlying232
  a32 := Tryz.isAgg232
  z32 := Tryz.sizeOf232
  v32 := Tryz.zeroValue232
  t35 := Tryz.underlying291
  a35 := Tryz.isAgg291
  z35 := Tryz.sizeOf291
  v35 := Tryz.zeroValue291
  t36 := Tryz.underlying292
  a36 := Tryz.isAgg292
  z36 := Tryz.sizeOf292
  v36 := Tryz.zeroValue292
  t41 := Tryz.underlying99
  a41 := Tryz.isAgg99
  z41 := Tryz.sizeOf99
  v41 := Tryz.zeroValue99
  t44 := Tryz.underlying233
  a44 := Tryz.isAgg233
  z44 := Tryz.sizeOf233
  v44 := Tryz.zeroValue233
  t46 := Tryz.underlying231
  a46 := Tryz.isAgg231
  z46 := Tryz.sizeOf231
  v46 := Tryz.zeroValue231
  t53 := Tryz.underlying322
  a53 := Tryz.isAgg322
  z53 := Tryz.sizeOf322
  v53 := Tryz.zeroValue322
  t57 := Tryz.underlying326
  a57 := Tryz.isAgg326
  z57 := Tryz.sizeOf326
  v57 := Tryz.zeroValue326
  t63 := Tryz.underlying352
  a63 := Tryz.isAgg352
  z63 := Tryz.sizeOf352
  v63 := Tryz.zeroValue352
  t64 := Tryz.underlying353
  a64 := Tryz.isAgg353
  z64 := Tryz.sizeOf353
  v64 := Tryz.zeroValue353 }
open Go.RowKit Go.Maps Go.Sort
theorem Tryz.sorts130 (m : Nat) : AnyZ.SortsIn Tryz.prog Tryz.sorted130_ren Fence.wide m :=
  ⟨fun blk off cap ss W hH hblk hsz => callsIn_wide.2 (AnyM.slices_Sort_string Tryz.sort102 blk off cap ss W hH hblk hsz),
   fun p cap W => callsIn_wide.2 (AnyM.slices_Sort_string_none Tryz.sort102 p cap W)⟩
theorem Tryz.maps_Keys_131 (mb : Option Nat) (W : World) : CallsIn Fence.wide 5 Tryz.prog 131 #[.map mb] W fun e w' => e = .returned (.func (.func 191) #[] #[.pointer (some ⟨W.heap.size, 0, none⟩)]) ∧ w' = W.alloc (.cells #[.map mb] 196) :=
  AnyZ.keys_in Tryz.keys131 Fence.wide 5 trivial rfl mb W
set_option maxHeartbeats 1000000 in
theorem Tryz.sortedKeys_130_131 (Bm b nn : Nat) (D0 : DataW Unit) (R : Value → Option (DataW Unit × List MemPlace)) (w : World) (hBm : Bm < w.heap.size) (hm : w.cell? ⟨Bm, 0, none⟩ = some (.map (some b))) (hown : w.ownsMap Tryz.prog 9 R b nn D0) (hmax : Maps.size D0 ≤ maxLen) (hbytes : Maps.size D0 * 16 ≤ 140737488355328) :
    Calls Tryz.prog 130 #[.func (.func 191) #[] #[.pointer (some ⟨Bm, 0, none⟩)]] w fun e w' => ∃ (v : Value) (ss : List (List UInt8)), e = .returned v ∧ ss.Perm (strKeys D0) ∧
      w'.ownsRow w.heap.size 9 1 v ss.length ((ss.mergeSort (fun x y => decide (x ≤ y))).map encStr) ∧ (v = .slice none 0 0 ↔ ss = []) ∧ Below w.heap.size w w' := by
  have hseq : SeqGives Fence.wide 2 Tryz.prog 191 #[.pointer (some ⟨Bm, 0, none⟩)] encStr (fun ss => ss.Perm (strKeys D0)) (Maps.size D0) w :=
    AnyZ.keys_gives (ρ := Tryz.keys131_ren) { Tryz.keys131 with } Fence.wide _ trivial rfl (by omega) Bm b nn D0 _ hBm hm hown
  exact (callsIn_wide (n := 5)).1 (AnyZ.sorted_in Tryz.sorted130 Fence.wide 5 trivial trivial trivial trivial rfl (by omega) (Tryz.sorts130 _) (enters_of Tryz.func102 (by kernel_rfl) rfl) 191 #[.pointer (some ⟨Bm, 0, none⟩)] trivial (enters_of Tryz.func191 (by kernel_rfl) rfl) _ _ hmax hbytes _ hseq)
theorem Tryz.mapsKeys_131 (mb : Option Nat) (W : World) : Calls Tryz.prog 131 #[.map mb] W fun e w' => e = .returned (.func (.func 191) #[] #[.pointer (some ⟨W.heap.size, 0, none⟩)]) ∧ w' = W.alloc (.cells #[.map mb] 196) :=
  (callsIn_wide (n := 5)).1 (Tryz.maps_Keys_131 mb W)
end Go.Proofs
end

section
namespace Go.V
open Go.RowKit
open Go.S hiding Str
instance : ErNo := ⟨115, 114⟩
@[reducible] def Gl : Mo := (GBlk 0 #[.iface 270 (.agg #[.pointer (some ⟨7, 29, none⟩)])])
instance : Dat FilesFile := ⟨3, fun x => [str x.path, i64 x.mode, str x.data], fun _ => rfl, fun _ u h => by simp only [List.mem_cons, List.not_mem_nil, or_false] at h; rcases h with rfl | rfl | rfl <;> first | rfl | exact Er.one _, fun _ => Mo.tt⟩
instance : Flat FilesFile := ⟨fun _ => rfl⟩
instance : Dat IndexEntry := ⟨6, fun x => [str x.path, i64 x.stage, i64 x.mode, str x.data, i64 x.time, i64 x.size], fun _ => rfl, fun _ u h => by simp only [List.mem_cons, List.not_mem_nil, or_false] at h; rcases h with rfl | rfl | rfl | rfl | rfl | rfl <;> first | rfl | exact Er.one _, fun _ => Mo.tt⟩
instance : Flat IndexEntry := ⟨fun _ => rfl⟩
structure TmergeResult where
  files : Sv FilesFile
  entries : Sv IndexEntry
  conflicts : Sv Str
@[reducible] def TmergeResult.m (x : TmergeResult) : Mo := (x.files.ok.and (x.entries.ok.and x.conflicts.ok))
def TmergeResult.pl (x : TmergeResult) : TmergeResultP := ⟨x.files.l, x.entries.l, x.conflicts.l⟩
instance : Dat TmergeResult := ⟨3, fun x => [x.files.val, x.entries.val, x.conflicts.val], fun _ => rfl, fun _ u h => by simp only [List.mem_cons, List.not_mem_nil, or_false] at h; rcases h with rfl | rfl | rfl <;> first | rfl | exact Er.one _, TmergeResult.m⟩
instance : Dat TmergeOne := ⟨4, fun x => [str x.file_path, i64 x.file_mode, str x.file_data, .bool x.is], fun _ => rfl, fun _ u h => by simp only [List.mem_cons, List.not_mem_nil, or_false] at h; rcases h with rfl | rfl | rfl | rfl <;> first | rfl | exact Er.one _, fun _ => Mo.tt⟩
instance : Flat TmergeOne := ⟨fun _ => rfl⟩
structure DiffTable where
  a : Sv Str
  b : Sv Str
  n : Sv Int
@[reducible] def DiffTable.m (x : DiffTable) : Mo := (x.a.ok.and (x.b.ok.and x.n.ok))
def DiffTable.pl (x : DiffTable) : DiffTableP := ⟨x.a.l, x.b.l, x.n.l⟩
instance : Dat DiffTable := ⟨3, fun x => [x.a.val, x.b.val, x.n.val], fun _ => rfl, fun _ u h => by simp only [List.mem_cons, List.not_mem_nil, or_false] at h; rcases h with rfl | rfl | rfl <;> first | rfl | exact Er.one _, DiffTable.m⟩
instance : Dat DiffEdit := ⟨2, fun x => [i64 x.op, str x.line], fun _ => rfl, fun _ u h => by simp only [List.mem_cons, List.not_mem_nil, or_false] at h; rcases h with rfl | rfl <;> first | rfl | exact Er.one _, fun _ => Mo.tt⟩
instance : Flat DiffEdit := ⟨fun _ => rfl⟩
instance : Dat DiffMatch := ⟨3, fun x => [i64 x.a, i64 x.b, i64 x.n], fun _ => rfl, fun _ u h => by simp only [List.mem_cons, List.not_mem_nil, or_false] at h; rcases h with rfl | rfl | rfl <;> first | rfl | exact Er.one _, fun _ => Mo.tt⟩
instance : Flat DiffMatch := ⟨fun _ => rfl⟩
instance : Dat Rectoref14File := ⟨3, fun x => [str x.path, i64 x.mode, str x.data], fun _ => rfl, fun _ u h => by simp only [List.mem_cons, List.not_mem_nil, or_false] at h; rcases h with rfl | rfl | rfl <;> first | rfl | exact Er.one _, fun _ => Mo.tt⟩
instance : Flat Rectoref14File := ⟨fun _ => rfl⟩
instance : Dat Rectoref3Part := ⟨2, fun x => [str x.word, i64 x.at_], fun _ => rfl, fun _ u h => by simp only [List.mem_cons, List.not_mem_nil, or_false] at h; rcases h with rfl | rfl <;> first | rfl | exact Er.one _, fun _ => Mo.tt⟩
instance : Flat Rectoref3Part := ⟨fun _ => rfl⟩
structure Rectoref3Wrong where
  parts : Sv Rectoref3Part
  err : Int
@[reducible] def Rectoref3Wrong.m (x : Rectoref3Wrong) : Mo := x.parts.ok
def Rectoref3Wrong.pl (x : Rectoref3Wrong) : Rectoref3WrongP := ⟨x.parts.l, x.err⟩
instance : Dat Rectoref3Wrong := ⟨2, fun x => [x.parts.val, i64 x.err], fun _ => rfl, fun _ u h => by simp only [List.mem_cons, List.not_mem_nil, or_false] at h; rcases h with rfl | rfl <;> first | rfl | exact Er.one _, Rectoref3Wrong.m⟩
instance : Dat Rectoref11Edit := ⟨2, fun x => [i64 x.op, str x.line], fun _ => rfl, fun _ u h => by simp only [List.mem_cons, List.not_mem_nil, or_false] at h; rcases h with rfl | rfl <;> first | rfl | exact Er.one _, fun _ => Mo.tt⟩
instance : Flat Rectoref11Edit := ⟨fun _ => rfl⟩
structure Rectoref11Chunk where
  base : Sv Str
  ours : Sv Str
  theirs : Sv Str
  clash : Bool
  out : Sv Str
@[reducible] def Rectoref11Chunk.m (x : Rectoref11Chunk) : Mo := (x.base.ok.and (x.ours.ok.and (x.theirs.ok.and x.out.ok)))
def Rectoref11Chunk.pl (x : Rectoref11Chunk) : Rectoref11ChunkP := ⟨x.base.l, x.ours.l, x.theirs.l, x.clash, x.out.l⟩
instance : Dat Rectoref11Chunk := ⟨5, fun x => [x.base.val, x.ours.val, x.theirs.val, .bool x.clash, x.out.val], fun _ => rfl, fun _ u h => by simp only [List.mem_cons, List.not_mem_nil, or_false] at h; rcases h with rfl | rfl | rfl | rfl | rfl <;> first | rfl | exact Er.one _, Rectoref11Chunk.m⟩
instance : Dat Rectoref14Entry := ⟨6, fun x => [str x.path, i64 x.stage, i64 x.mode, str x.data, i64 x.time, i64 x.size], fun _ => rfl, fun _ u h => by simp only [List.mem_cons, List.not_mem_nil, or_false] at h; rcases h with rfl | rfl | rfl | rfl | rfl | rfl <;> first | rfl | exact Er.one _, fun _ => Mo.tt⟩
instance : Flat Rectoref14Entry := ⟨fun _ => rfl⟩
structure Rectoref14Result where
  files : Sv Rectoref14File
  entries : Sv Rectoref14Entry
  conflicts : Sv Str
@[reducible] def Rectoref14Result.m (x : Rectoref14Result) : Mo := (x.files.ok.and (x.entries.ok.and x.conflicts.ok))
def Rectoref14Result.pl (x : Rectoref14Result) : Rectoref14ResultP := ⟨x.files.l, x.entries.l, x.conflicts.l⟩
instance : Dat Rectoref14Result := ⟨3, fun x => [x.files.val, x.entries.val, x.conflicts.val], fun _ => rfl, fun _ u h => by simp only [List.mem_cons, List.not_mem_nil, or_false] at h; rcases h with rfl | rfl | rfl <;> first | rfl | exact Er.one _, Rectoref14Result.m⟩
structure ApiFault where
  part : Str
  at_ : Int
  err : Er
@[reducible] def ApiFault.m (x : ApiFault) : Mo := x.err.ok
def ApiFault.pl (x : ApiFault) : ApiFaultP := ⟨x.part, x.at_, x.err.pl⟩
instance : Dat ApiFault := ⟨3, fun x => [str x.part, i64 x.at_, x.err.val], fun _ => rfl, fun _ u h => by simp only [List.mem_cons, List.not_mem_nil, or_false] at h; rcases h with rfl | rfl | rfl <;> first | rfl | exact Er.one _, ApiFault.m⟩
end Go.V
end
