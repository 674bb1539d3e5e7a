/- Part of the proofs of: Whatever texts a base and two heirs are, the merge keeps one side's edits, its parts, its marks and its turning: MergeSides, MergeParts, MergeMarked and MergeTurned answer true at every input. No condition. -/
import Derived.Lib.Bytealg
import Derived.Laws.Small
import Derived.Lib.AppendStr
import Derived.Lib.UnsafeStr
import Derived.Lib.Builder
import Derived.Laws.Externs
import Derived.Laws.BytesString
import Derived.Laws.IdiomStrings
import Derived.Test.YtmkncbldffncpaaC
set_option linter.unusedVariables false
set_option linter.unusedSimpArgs false
set_option linter.unusedSectionVars false
section
namespace Go.Proofs.Ytmkncbldffncpaa
open Go.RowKit Go.V
open Go.P hiding Str
set_option maxHeartbeats 4000000 in
set_option maxRecDepth 100000 in
theorem chunks_ct (a b d : Sv Str) (ha : a.l.length ≤ 256) (hb : b.l.length ≤ 256) (hd : d.l.length ≤ 256) :
    Ct Try.prog 11 [a.val, b.val, d.val] (a.ok.and (b.ok.and d.ok)) Ow.emp (X := Sv Ck) (fun q => .tuple #[q.val, .nilIface]) (fun q => q.l.map Ck.pl = chunks a.l b.l d.l) (fun q => q.ok) (fun _ => Ow.emp) := by
  refine Ct.of Try.func11 rfl (by kernel_rfl) Try.ntmps11 (by simp) fun c => ?_
  refine VC.seq ?_
  refine VC.region ?_
  refine VL.q (q_assign rfl) (by decide) ?_
  refine VL.q (q_assign rfl) (by decide) ?_
  refine VL.to (fun _ _ h => h) ?_
  refine VC.seq ?_
  refine VC.region ?_
  refine VL.q (q_move rfl) (by decide) ?_
  refine VL.q (q_move rfl) (by decide) ?_
  refine VL.callF (places_ct a b (by omega) (by omega)) rfl (by decide) ?_
  rintro s18 hs18
  refine VL.q (q_move rfl) (by decide) ?_
  refine VL.q (q_extract rfl rfl) (by decide) ?_
  refine VL.q (q_extract rfl rfl) (by decide) ?_
  refine VL.q (q_assign rfl) (by decide) ?_
  refine VL.q (q_assign rfl) (by decide) ?_
  refine VL.to (fun _ _ h => h) ?_
  refine VC.seq ?_
  refine VC.seq ?_
  refine VC.region ?_
  refine VL.q (q_move rfl) (by decide) ?_
  refine VL.q (q_nilne Try.underlying24 rfl) (by decide) ?_
  refine VL.to (fun _ _ h => h) ?_
  refine VC.cond_f rfl ?_
  refine VC.skip_to (fun _ _ h => h) ?_
  refine VC.seq ?_
  refine VC.region ?_
  refine VL.q (q_move rfl) (by decide) ?_
  refine VL.q (q_move rfl) (by decide) ?_
  refine VL.callF (places_ct a d (by omega) (by omega)) rfl (by decide) ?_
  rintro s27 hs27
  refine VL.q (q_move rfl) (by decide) ?_
  refine VL.q (q_extract rfl rfl) (by decide) ?_
  refine VL.q (q_extract rfl rfl) (by decide) ?_
  refine VL.q (q_assign rfl) (by decide) ?_
  refine VL.q (q_assign rfl) (by decide) ?_
  refine VL.to (fun _ _ h => h) ?_
  refine VC.seq ?_
  refine VC.seq ?_
  refine VC.region ?_
  refine VL.q (q_move rfl) (by decide) ?_
  refine VL.q (q_nilne Try.underlying24 rfl) (by decide) ?_
  refine VL.to (fun _ _ h => h) ?_
  refine VC.cond_f rfl ?_
  refine VC.skip_to (fun _ _ h => h) ?_
  refine VC.seq ?_
  refine VC.region ?_
  refine VL.q (q_move rfl) (by decide) ?_
  refine VL.q (q_move rfl) (by decide) ?_
  refine VL.q (q_move rfl) (by decide) ?_
  refine VL.q (q_build (vs := [(0, a.val), (1, b.val), (2, d.val)]) (cs := #[a.val, b.val, d.val, i64 0, i64 0, i64 0, .slice none 0 0, .bool false]) rfl (by kernel_rfl)) (by decide) ?_
  refine VL.box (cs := [a.val, b.val, d.val, i64 0, i64 0, i64 0, .slice none 0 0, .bool false]) rfl rfl (by decide) fun b37 => ?_
  refine VL.q (q_assign rfl) (by decide) ?_
  refine VL.to (fun _ _ h => h) ?_
  refine VC.seq ?_
  refine VC.seq ?_
  refine VC.region ?_
  refine VL.q (q_move rfl) (by decide) ?_
  refine VL.q (q_ln (s := a) Try.underlying28 rfl) (by decide) ?_
  refine VL.q (q_move rfl) (by decide) ?_
  refine VL.to (fun _ _ h => h) ?_
  refine VC.block ?_
  refine VC.withM (a.ok.and (b.ok.and (d.ok.and (s18.ok.and s27.ok)))) ?_
  refine VC.nilO (⟨none, 0, []⟩ : Sv Ck) 34 ⟨rfl, rfl⟩ ?_
  refine VC.mono (fun _ h => h) (E' := Ow.star ((⟨none, 0, []⟩ : Sv Ck).own 34) (Ow.star (Blk b37 [a.val, b.val, d.val, i64 0, i64 0, i64 0, (⟨none, 0, []⟩ : Sv Ck).val, .bool false] 54) Ow.emp)) (fun _ h => h) ?_
  have hl18 : s18.l.length = a.l.length := by rw [hs18, places_len]
  have hl27 : s27.l.length = a.l.length := by rw [hs27, places_len]
  refine VC.loopM (S := Int × Wk × Sv Ck × List Ck × Ck) (fun sg => CInv a.l b.l d.l sg.1 sg.2.1 ∧ Rel sg.2.1 sg.2.2.1 sg.2.2.2.1 sg.2.2.2.2) (fun sg => [(0, a.val), (1, b.val), (2, d.val), (6, .slice none 0 0), (7, .nilIface), (8, s18.val), (9, .nilIface), (10, s27.val), (11, ptr b37 0), (39, i64 (a.l.length : Int)), (40, i64 sg.1)]) (fun sg => (MA sg.2.2.2.1).and (a.ok.and (b.ok.and (d.ok.and (s18.ok.and s27.ok))))) (fun sg => Ow.star (Blk b37 [a.val, b.val, d.val, i64 sg.2.1.i, i64 sg.2.1.j, i64 sg.2.1.k, sg.2.2.1.val, .bool sg.2.1.op] 54) (Ow.star (Sv.own sg.2.2.1 34) (Ow.star (OpenO sg.2.1.op sg.2.2.2.2) (Ow.emp)))) (fun sg => (a.l.length - sg.1).toNat) (0, ⟨0, 0, 0, [], false⟩, ⟨none, 0, []⟩, [], nilck) [0, 1, 2, 6, 7, 8, 9, 10, 11, 39, 40] (by (try dsimp only); exact ⟨cinv_start _ _ _, ⟨fun h => (by cases h), fun _ => ⟨rfl, rfl⟩, rfl⟩⟩) rfl (fun _ q => ⟨fun z hz => (by cases hz), q⟩) (by (try dsimp only); exact EntO.out) ?_
  rintro ⟨n, s, o, fr, x⟩ hI
  show VC _ _ _ _ _ [(0, a.val), (1, b.val), (2, d.val), (6, .slice none 0 0), (7, .nilIface), (8, s18.val), (9, .nilIface), (10, s27.val), (11, ptr b37 0), (39, i64 (a.l.length : Int)), (40, i64 n)] ((MA fr).and (a.ok.and (b.ok.and (d.ok.and (s18.ok.and s27.ok))))) (Ow.star (Blk b37 [a.val, b.val, d.val, i64 s.i, i64 s.j, i64 s.k, o.val, .bool s.op] 54) (Ow.star (Sv.own o 34) (Ow.star (OpenO s.op x) (Ow.emp))))
  try dsimp only at hI
  obtain ⟨hC, hR⟩ := hI
  have c1 := hC.n0
  have c2 := hC.n1
  have c3 := hC.i0
  have c4 := hC.i1
  have c5 := hC.j0
  have c6 := hC.j1
  have c7 := hC.k0
  have c8 := hC.k1
  have c9 := hC.len
  have c10 : o.l.length = s.out.length := by rw [← hR.out]; simp
  refine VC.seq ?_
  refine VC.region ?_
  refine VL.q (q_lss rfl rfl) (by decide) ?_
  refine VL.to (fun _ _ h => h) ?_
  refine VC.seq ?_
  refine VC.cond_dec rfl (fun h41 => ?_) (fun h41 => ?_)
  · -- then of 41
    refine VC.skip_to (fun _ _ h => h) ?_
    refine VC.seq ?_
    refine VC.block ?_
    refine VC.seq ?_
    refine VC.region ?_
    refine VL.q (q_move rfl) (by decide) ?_
    refine VL.q (q_assign rfl) (by decide) ?_
    refine VL.to (fun _ _ h => h) ?_
    refine VC.seq ?_
    refine VC.region ?_
    refine VL.q (q_move rfl) (by decide) ?_
    refine VL.q (q_move rfl) (by decide) ?_
    obtain ⟨z45, hz45⟩ : ∃ z, s18.l[(n).toNat]? = some z := ⟨_, List.getElem?_eq_getElem (by omega)⟩
    refine VL.q (q_ixm (s := s18) Try.underlying49 sz3 rfl rfl (by omega) (by omega)) (by decide) ?_
    refine VL.q (q_el (s := s18) one3 rfl hz45 rfl) (by decide) ?_
    refine VL.q (q_geq rfl rfl) (by decide) ?_
    refine VL.q (q_move rfl) (by decide) ?_
    refine VL.split_dec 48 rfl (fun h48 => ?_) (fun h48 => ?_)
    · -- then of 48
      refine VL.gy rfl rfl (q_move rfl) (by decide) ?_
      refine VL.gy rfl rfl (q_move rfl) (by decide) ?_
      obtain ⟨z51, hz51⟩ : ∃ z, s27.l[(n).toNat]? = some z := ⟨_, List.getElem?_eq_getElem (by omega)⟩
      refine VL.gy rfl rfl (q_ixm (s := s27) Try.underlying49 sz3 rfl rfl (by omega) (by omega)) (by decide) ?_
      refine VL.gy rfl rfl (q_el (s := s27) one3 rfl hz51 rfl) (by decide) ?_
      refine VL.gy rfl rfl (q_geq rfl rfl) (by decide) ?_
      refine VL.q (q_pick_t rfl rfl) (by decide) ?_
      refine VL.to (fun _ _ h => h) ?_
      refine VC.cond_dec rfl (fun h54 => ?_) (fun h54 => ?_)
      · -- then of 54
        refine VC.seq ?_
        obtain ⟨line, hline⟩ : ∃ z, a.l[n.toNat]? = some z := ⟨_, List.getElem?_eq_getElem (by omega)⟩
        have hzu : (places a.l b.l)[n.toNat]? = some z45 := by rw [← hs18]; exact hz45
        have hzv : (places a.l d.l)[n.toNat]? = some z51 := by rw [← hs27]; exact hz51
        have hju := hC.ju n.toNat z45 (by omega) hzu (by assumption)
        have hkv := hC.kv n.toNat z51 (by omega) hzv (by assumption)
        have hur := places_range a.l b.l z45 (List.mem_of_getElem? hzu) (by assumption)
        have hvr := places_range a.l d.l z51 (List.mem_of_getElem? hzv) (by assumption)
        refine VC.draw [(0, true), (1, true), (2, true), (3, true), (4, true), (5, true), (6, true), (7, true), (8, true), (9, true), (10, false)] mixed (by kernel_rfl) (by kernel_rfl) (by kernel_rfl) ?_
        refine VD.q rfl (q_move rfl) (by decide) ?_
        refine VD.q rfl (q_move rfl) (by decide) ?_
        refine VD.q rfl (q_move rfl) (by decide) ?_
        refine VD.q rfl (q_move rfl) (by decide) ?_
        refine VD.q rfl (q_ixm (s := s18) Try.underlying49 sz3 rfl rfl (by omega) (by omega)) (by decide) ?_
        refine VD.q rfl (q_el (s := s18) one3 rfl hz45 rfl) (by decide) ?_
        refine VD.q rfl (q_move rfl) (by decide) ?_
        refine VD.q rfl (q_move rfl) (by decide) ?_
        refine VD.q rfl (q_ixm (s := s27) Try.underlying49 sz3 rfl rfl (by omega) (by omega)) (by decide) ?_
        refine VD.q rfl (q_el (s := s27) one3 rfl hz51 rfl) (by decide) ?_
        refine VD.one rfl ?_
        obtain ⟨out1, op1, hput⟩ := put_form a.l b.l d.l s n z45 z51
        refine VL.callO (upto_all b37 a b d o fr x s n z45 z51 hR (by omega) (by omega) (by omega) (by omega) (by omega) (by omega) (by omega) (by omega) (by omega) ha hb hd (by omega)) rfl (by decide) ?_
        rintro ⟨o1, fr1, x1⟩ hR1
        dsimp only at hR1
        rw [hput] at hR1
        simp only [hput]
        refine VL.back (D' := []) (by kernel_rfl) (Pend.nil) ?_
        refine VD.to (fun _ _ h => h) ?_
        have hps := put_sm (b := a.l) (o := b.l) (t := d.l) (s := s) (i := n) (j := z45) (k := z51) ha hb hd (N := 256 + n) (by omega) (Sm.up (N := 256 + s.i) hC.sm (by omega))
        rw [hput] at hps
        have hlen1 : o1.l.length ≤ 1048576 := by have := congrArg List.length hR1.out; simp at this; have := hps.2; dsimp only at this; omega
        have hsm1 : ∀ q ∈ out1, q.base.length ≤ 1048576 ∧ q.ours.length ≤ 1048576 ∧ q.theirs.length ≤ 1048576 ∧ q.out.length ≤ 1048576 := fun q hq => by have := hps.1 q hq; omega
        refine VC.region ?_
        refine VL.q (q_move rfl) (by decide) ?_
        have hk := kept_all b37 a b d o1 fr1 x1 ⟨n, z45, z51, out1, op1⟩ line hR1 hline (by dsimp only; omega) (by dsimp only; omega) (by dsimp only; omega) (by dsimp only; omega) (by dsimp only; omega) (by dsimp only; omega) hlen1 hsm1
        dsimp only at hk
        refine VL.callO (hk) rfl (by decide) ?_
        rintro ⟨o2, fr2, x2⟩ ⟨hR2, hfr2⟩
        dsimp only at hR2 hfr2
        dsimp only
        refine VL.to (fun _ _ h => h) ?_
        refine VC.region ?_
        refine VL.q (q_add rfl rfl ⟨by omega, by omega⟩) (by decide) ?_
        refine VL.q (q_move rfl) (by decide) ?_
        refine VL.any ((n + 1), ⟨n + 1, z45 + 1, z51 + 1, (keepW ⟨n, z45, z51, out1, op1⟩ line).out, true⟩, o2, fr2, x2) [0, 1, 2, 6, 7, 8, 9, 10, 11, 39, 40] (fun _ _ h => h) ?_ rfl (fun _ q => ⟨by have := q.2.1; rw [hfr2]; exact this, q.2.2.2⟩) (by (try dsimp only); exact EntO.out)
        try dsimp only
        first
          | exact ⟨⟨by have := cinv_keep hC ha hb hd hzu hzv hline (by assumption) (by assumption); rw [hput] at this; exact this, hR2⟩, by omega⟩
          | exact ⟨⟨cinv_pass hC (v := z51) (by rw [← hs18]; exact hz45) (by rw [← hs27]; exact hz51) (by omega) (by omega), hR⟩, by omega⟩
          | exact ⟨⟨cinv_pass hC (u := z45) (v := s27.l[n.toNat]'(by omega)) (by rw [← hs18]; exact hz45) (by rw [← hs27]; exact List.getElem?_eq_getElem (by omega)) (by omega) (by omega), hR⟩, by omega⟩
      · -- else of 54
        refine VC.skip_to (fun _ _ h => h) ?_
        refine VC.region ?_
        refine VL.q (q_add rfl rfl ⟨by omega, by omega⟩) (by decide) ?_
        refine VL.q (q_move rfl) (by decide) ?_
        refine VL.any ((n + 1), s, o, fr, x) [0, 1, 2, 6, 7, 8, 9, 10, 11, 39, 40] (fun _ _ h => h) ?_ rfl (fun _ q => q) (by (try dsimp only); exact EntO.out)
        try dsimp only
        first
          | exact ⟨⟨by have := cinv_keep hC ha hb hd hzu hzv hline (by assumption) (by assumption); rw [hput] at this; exact this, hR2⟩, by omega⟩
          | exact ⟨⟨cinv_pass hC (v := z51) (by rw [← hs18]; exact hz45) (by rw [← hs27]; exact hz51) (by omega) (by omega), hR⟩, by omega⟩
          | exact ⟨⟨cinv_pass hC (u := z45) (v := s27.l[n.toNat]'(by omega)) (by rw [← hs18]; exact hz45) (by rw [← hs27]; exact List.getElem?_eq_getElem (by omega)) (by omega) (by omega), hR⟩, by omega⟩
    · -- else of 48
      refine VL.gn rfl rfl rfl (by decide) ?_
      refine VL.gn rfl rfl rfl (by decide) ?_
      refine VL.gn rfl rfl rfl (by decide) ?_
      refine VL.gn rfl rfl rfl (by decide) ?_
      refine VL.gn rfl rfl rfl (by decide) ?_
      refine VL.q (q_pick_f rfl rfl) (by decide) ?_
      refine VL.to (fun _ _ h => h) ?_
      refine VC.cond_f rfl ?_
      refine VC.skip_to (fun _ _ h => h) ?_
      refine VC.region ?_
      refine VL.q (q_add rfl rfl ⟨by omega, by omega⟩) (by decide) ?_
      refine VL.q (q_move rfl) (by decide) ?_
      refine VL.any ((n + 1), s, o, fr, x) [0, 1, 2, 6, 7, 8, 9, 10, 11, 39, 40] (fun _ _ h => h) ?_ rfl (fun _ q => q) (by (try dsimp only); exact EntO.out)
      try dsimp only
      first
        | exact ⟨⟨by have := cinv_keep hC ha hb hd hzu hzv hline (by assumption) (by assumption); rw [hput] at this; exact this, hR2⟩, by omega⟩
        | exact ⟨⟨cinv_pass hC (v := z51) (by rw [← hs18]; exact hz45) (by rw [← hs27]; exact hz51) (by omega) (by omega), hR⟩, by omega⟩
        | exact ⟨⟨cinv_pass hC (u := z45) (v := s27.l[n.toNat]'(by omega)) (by rw [← hs18]; exact hz45) (by rw [← hs27]; exact List.getElem?_eq_getElem (by omega)) (by omega) (by omega), hR⟩, by omega⟩
  · -- else of 41
    refine VC.exit_to (fun _ _ h => h) ?_
    refine VC.seq ?_
    refine VC.region ?_
    refine VL.q (q_move rfl) (by decide) ?_
    refine VL.q (q_move rfl) (by decide) ?_
    refine VL.q (q_ln (s := a) Try.underlying28 rfl) (by decide) ?_
    refine VL.q (q_move rfl) (by decide) ?_
    refine VL.q (q_ln (s := b) Try.underlying28 rfl) (by decide) ?_
    refine VL.q (q_move rfl) (by decide) ?_
    refine VL.q (q_ln (s := d) Try.underlying28 rfl) (by decide) ?_
    obtain ⟨out1, op1, hput⟩ := put_form a.l b.l d.l s (a.l.length : Int) (b.l.length : Int) (d.l.length : Int)
    refine VL.callO (upto_all b37 a b d o fr x s (a.l.length : Int) (b.l.length : Int) (d.l.length : Int) hR (by omega) (by omega) (by omega) (by omega) (by omega) (by omega) (by omega) (by omega) (by omega) ha hb hd (by omega)) rfl (by decide) ?_
    rintro ⟨o1, fr1, x1⟩ hR1
    dsimp only at hR1
    rw [hput] at hR1
    simp only [hput]
    refine VL.to (fun _ _ h => h) ?_
    refine VC.seq ?_
    refine VC.seq ?_
    have hch : o1.l.map Ck.pl = chunks a.l b.l d.l := by
      rw [hR1.out]
      have he : n.toNat = a.l.length := by omega
      have h2 := hC.eq
      rw [he] at h2
      unfold chunks
      rw [← h2, hput]
    have hl1 : o1.l.length ≤ 1048576 := by
      have h2 := congrArg List.length hR1.out
      simp at h2
      have hps := (put_sm (b := a.l) (o := b.l) (t := d.l) (s := s) (i := (a.l.length : Int)) (j := (b.l.length : Int)) (k := (d.l.length : Int)) ha hb hd (N := 256 + n) (by omega) (Sm.up (N := 256 + s.i) hC.sm (by omega))).2
      rw [hput] at hps
      dsimp only at hps
      omega
    refine VC.region ?_
    refine VL.q (q_move rfl) (by decide) ?_
    refine VL.q (q_nilCheck rfl) (by decide) ?_
    refine VL.q (q_field fa54_6 rfl) (by decide) ?_
    refine VL.q (q_fe one30 rfl rfl) (by decide) ?_
    refine VL.q (q_ln (s := o1) Try.underlying30 rfl) (by decide) ?_
    refine VL.q (q_move rfl) (by decide) ?_
    refine VL.to (fun _ _ h => h) ?_
    refine VC.block ?_
    refine VC.closeO op1 rfl hR1 ?_
    refine VC.withM ((MA o1.l).and (a.ok.and (b.ok.and (d.ok.and (s18.ok.and s27.ok))))) ?_
    refine VC.loopM (S := Int × Sv Ck) (fun sg => 0 ≤ sg.1 ∧ sg.1 ≤ sg.2.l.length ∧ sg.2.l.length = o1.l.length ∧ sg.2.l.map Ck.pl = chunks a.l b.l d.l) (fun sg => [(0, a.val), (1, b.val), (2, d.val), (6, .slice none 0 0), (7, .nilIface), (8, s18.val), (9, .nilIface), (10, s27.val), (11, ptr b37 0), (39, i64 (a.l.length : Int)), (40, i64 n), (81, i64 (o1.l.length : Int)), (82, i64 sg.1)]) (fun sg => (MA sg.2.l).and (a.ok.and (b.ok.and (d.ok.and (s18.ok.and s27.ok))))) (fun sg => Ow.star (Blk b37 [a.val, b.val, d.val, i64 (a.l.length : Int), i64 (b.l.length : Int), i64 (d.l.length : Int), sg.2.val, .bool op1] 54) (Ow.star (Sv.own sg.2 34) (Ow.emp))) (fun sg => (sg.2.l.length - sg.1).toNat) (0, o1) [0, 1, 2, 6, 7, 8, 9, 10, 11, 39, 40, 81, 82] (by (try dsimp only); exact ⟨by omega, by omega, rfl, hch⟩) rfl (fun _ q => q) (by (try dsimp only); exact EntO.out) ?_
    rintro ⟨m, o3⟩ hI
    show VC _ _ _ _ _ [(0, a.val), (1, b.val), (2, d.val), (6, .slice none 0 0), (7, .nilIface), (8, s18.val), (9, .nilIface), (10, s27.val), (11, ptr b37 0), (39, i64 (a.l.length : Int)), (40, i64 n), (81, i64 (o1.l.length : Int)), (82, i64 m)] ((MA o3.l).and (a.ok.and (b.ok.and (d.ok.and (s18.ok.and s27.ok))))) (Ow.star (Blk b37 [a.val, b.val, d.val, i64 (a.l.length : Int), i64 (b.l.length : Int), i64 (d.l.length : Int), o3.val, .bool op1] 54) (Ow.star (Sv.own o3 34) (Ow.emp)))
    try dsimp only at hI
    obtain ⟨m0, m1, hol3, hmap⟩ := hI
    refine VC.seq ?_
    refine VC.region ?_
    refine VL.q (q_lss rfl rfl) (by decide) ?_
    refine VL.to (fun _ _ h => h) ?_
    refine VC.seq ?_
    refine VC.cond_dec rfl (fun h83 => ?_) (fun h83 => ?_)
    · -- then of 83
      refine VC.skip_to (fun _ _ h => h) ?_
      refine VC.seq ?_
      refine VC.block ?_
      refine VC.seq ?_
      refine VC.region ?_
      refine VL.q (q_move rfl) (by decide) ?_
      refine VL.q (q_assign rfl) (by decide) ?_
      refine VL.to (fun _ _ h => h) ?_
      refine VC.seq ?_
      refine VC.region ?_
      refine VL.q (q_move rfl) (by decide) ?_
      refine VL.q (q_nilCheck rfl) (by decide) ?_
      refine VL.q (q_field fa54_6 rfl) (by decide) ?_
      refine VL.q (q_fe one30 rfl rfl) (by decide) ?_
      refine VL.q (q_move rfl) (by decide) ?_
      obtain ⟨z90, hz90⟩ : ∃ z, o3.l[(m).toNat]? = some z := ⟨_, List.getElem?_eq_getElem (by omega)⟩
      refine VL.q (q_ixo (s := o3) Try.underlying30 sz34 rfl rfl (by omega) (by omega)) (by decide) ?_
      refine VL.q (q_assign rfl) (by decide) ?_
      refine VL.to (fun _ _ h => h) ?_
      refine VC.addM z90.m (fun h q => q.1 z90 (List.mem_of_getElem? hz90)) ?_
      refine VC.draw [(0, true), (1, true), (2, true), (3, true), (4, true), (5, true), (6, true), (7, true), (9, true), (10, true), (11, true), (12, true), (14, true), (15, true), (16, true), (17, true), (19, true), (20, true), (21, true), (22, true), (8, false), (13, false), (18, false), (23, false), (24, true), (25, true), (26, false), (27, true), (28, true), (29, false), (30, true), (31, true), (32, false), (33, true), (34, true), (35, false)] mixed (by kernel_rfl) (by kernel_rfl) (by kernel_rfl) ?_
      refine VD.q rfl (q_move rfl) (by decide) ?_
      refine VD.q rfl (q_move rfl) (by decide) ?_
      refine VD.q rfl (q_move rfl) (by decide) ?_
      refine VD.q rfl (q_move rfl) (by decide) ?_
      refine VD.q rfl (q_move rfl) (by decide) ?_
      refine VD.q rfl (q_nilCheck rfl) (by decide) ?_
      refine VD.q rfl (q_field fa34_0 rfl) (by decide) ?_
      refine VD.q rfl (q_elfo (s := o3) one28 rfl hz90 rfl) (by decide) ?_
      refine VD.q rfl (q_move rfl) (by decide) ?_
      refine VD.q rfl (q_nilCheck rfl) (by decide) ?_
      refine VD.q rfl (q_field fa34_1 rfl) (by decide) ?_
      refine VD.q rfl (q_elfo (s := o3) one28 rfl hz90 rfl) (by decide) ?_
      refine VD.q rfl (q_move rfl) (by decide) ?_
      refine VD.q rfl (q_nilCheck rfl) (by decide) ?_
      refine VD.q rfl (q_field fa34_2 rfl) (by decide) ?_
      refine VD.q rfl (q_elfo (s := o3) one28 rfl hz90 rfl) (by decide) ?_
      refine VD.q rfl (q_move rfl) (by decide) ?_
      refine VD.q rfl (q_nilCheck rfl) (by decide) ?_
      refine VD.q rfl (q_field fa34_4 rfl) (by decide) ?_
      refine VD.q rfl (q_elfo (s := o3) one28 rfl hz90 rfl) (by decide) ?_
      refine VD.one rfl ?_
      refine VL.callF (clip_ct z90.base) rfl (by decide) ?_
      rintro s99 hs99
      refine VL.back (D' := [(22, z90.out.val), (21, ptr o3.b (o3.o + ((m).toNat) * Dat.sz Ck + 4)), (20, ptr o3.b (o3.o + ((m).toNat) * Dat.sz Ck + 0)), (17, z90.theirs.val), (16, ptr o3.b (o3.o + ((m).toNat) * Dat.sz Ck + 2)), (15, ptr o3.b (o3.o + ((m).toNat) * Dat.sz Ck + 0)), (12, z90.ours.val), (11, ptr o3.b (o3.o + ((m).toNat) * Dat.sz Ck + 1)), (10, ptr o3.b (o3.o + ((m).toNat) * Dat.sz Ck + 0))]) (by kernel_rfl) (Pend.cons rfl (q_elfo (s := o3) one28 rfl hz90 rfl) (Pend.cons rfl (q_field fa34_4 rfl) (Pend.cons rfl (q_nilCheck rfl) (Pend.cons rfl (q_elfo (s := o3) one28 rfl hz90 rfl) (Pend.cons rfl (q_field fa34_2 rfl) (Pend.cons rfl (q_nilCheck rfl) (Pend.cons rfl (q_elfo (s := o3) one28 rfl hz90 rfl) (Pend.cons rfl (q_field fa34_1 rfl) (Pend.cons rfl (q_nilCheck rfl) (Pend.nil)))))))))) ?_
      refine VD.one rfl ?_
      refine VL.callF (clip_ct z90.ours) rfl (by decide) ?_
      rintro s104 hs104
      refine VL.back (D' := [(22, z90.out.val), (21, ptr o3.b (o3.o + ((m).toNat) * Dat.sz Ck + 4)), (20, ptr o3.b (o3.o + ((m).toNat) * Dat.sz Ck + 0)), (17, z90.theirs.val), (16, ptr o3.b (o3.o + ((m).toNat) * Dat.sz Ck + 2)), (15, ptr o3.b (o3.o + ((m).toNat) * Dat.sz Ck + 0))]) (by kernel_rfl) (Pend.cons rfl (q_elfo (s := o3) one28 rfl hz90 rfl) (Pend.cons rfl (q_field fa34_4 rfl) (Pend.cons rfl (q_nilCheck rfl) (Pend.cons rfl (q_elfo (s := o3) one28 rfl hz90 rfl) (Pend.cons rfl (q_field fa34_2 rfl) (Pend.cons rfl (q_nilCheck rfl) (Pend.nil))))))) ?_
      refine VD.one rfl ?_
      refine VL.callF (clip_ct z90.theirs) rfl (by decide) ?_
      rintro s109 hs109
      refine VL.back (D' := [(22, z90.out.val), (21, ptr o3.b (o3.o + ((m).toNat) * Dat.sz Ck + 4)), (20, ptr o3.b (o3.o + ((m).toNat) * Dat.sz Ck + 0))]) (by kernel_rfl) (Pend.cons rfl (q_elfo (s := o3) one28 rfl hz90 rfl) (Pend.cons rfl (q_field fa34_4 rfl) (Pend.cons rfl (q_nilCheck rfl) (Pend.nil)))) ?_
      refine VD.one rfl ?_
      refine VL.callF (clip_ct z90.out) rfl (by decide) ?_
      rintro s114 hs114
      refine VL.back (D' := []) (by kernel_rfl) (Pend.nil) ?_
      refine VD.q rfl (q_nilCheck rfl) (by decide) ?_
      refine VD.q rfl (q_field fa34_0 rfl) (by decide) ?_
      refine VD.one rfl ?_
      refine VL.storeE (s := o3) (T := 34) (j := 0) (vc := [s99.val]) (⟨s99, z90.ours, z90.theirs, z90.clash, z90.out⟩ : Ck) (by decide) rfl rfl hz90 rfl sz28 rfl rfl (Nat.le_of_ble_eq_true rfl) rfl (fun w0 hw0 haw0 hcw0 hvw0 hbw0 how0 => ?_)
      rw [← hvw0]
      try rw [← hbw0]
      try rw [← how0]
      have hew0 : w0.l[(m).toNat]? = some (⟨s99, z90.ours, z90.theirs, z90.clash, z90.out⟩ : Ck) := by rw [hw0]; exact List.getElem?_set_self (List.getElem?_eq_some_iff.1 hz90).1
      refine VL.back (D' := []) (by kernel_rfl) (Pend.nil) ?_
      refine VD.q rfl (q_nilCheck rfl) (by decide) ?_
      refine VD.q rfl (q_field fa34_1 rfl) (by decide) ?_
      refine VD.one rfl ?_
      refine VL.storeE (s := w0) (T := 34) (j := 1) (vc := [s104.val]) (⟨s99, s104, z90.theirs, z90.clash, z90.out⟩ : Ck) (by decide) rfl rfl hew0 rfl sz28 rfl rfl (Nat.le_of_ble_eq_true rfl) rfl (fun w1 hw1 haw1 hcw1 hvw1 hbw1 how1 => ?_)
      rw [← hvw1]
      try rw [← hbw1]
      try rw [← how1]
      have hew1 : w1.l[(m).toNat]? = some (⟨s99, s104, z90.theirs, z90.clash, z90.out⟩ : Ck) := by rw [hw1]; exact List.getElem?_set_self (List.getElem?_eq_some_iff.1 hew0).1
      refine VL.back (D' := []) (by kernel_rfl) (Pend.nil) ?_
      refine VD.q rfl (q_nilCheck rfl) (by decide) ?_
      refine VD.q rfl (q_field fa34_2 rfl) (by decide) ?_
      refine VD.one rfl ?_
      refine VL.storeE (s := w1) (T := 34) (j := 2) (vc := [s109.val]) (⟨s99, s104, s109, z90.clash, z90.out⟩ : Ck) (by decide) rfl rfl hew1 rfl sz28 rfl rfl (Nat.le_of_ble_eq_true rfl) rfl (fun w2 hw2 haw2 hcw2 hvw2 hbw2 how2 => ?_)
      rw [← hvw2]
      try rw [← hbw2]
      try rw [← how2]
      have hew2 : w2.l[(m).toNat]? = some (⟨s99, s104, s109, z90.clash, z90.out⟩ : Ck) := by rw [hw2]; exact List.getElem?_set_self (List.getElem?_eq_some_iff.1 hew1).1
      refine VL.back (D' := []) (by kernel_rfl) (Pend.nil) ?_
      refine VD.q rfl (q_nilCheck rfl) (by decide) ?_
      refine VD.q rfl (q_field fa34_4 rfl) (by decide) ?_
      refine VD.one rfl ?_
      refine VL.storeE (s := w2) (T := 34) (j := 4) (vc := [s114.val]) (⟨s99, s104, s109, z90.clash, s114⟩ : Ck) (by decide) rfl rfl hew2 rfl sz28 rfl rfl (Nat.le_of_ble_eq_true rfl) rfl (fun w3 hw3 haw3 hcw3 hvw3 hbw3 how3 => ?_)
      rw [← hvw3]
      try rw [← hbw3]
      try rw [← how3]
      have hew3 : w3.l[(m).toNat]? = some (⟨s99, s104, s109, z90.clash, s114⟩ : Ck) := by rw [hw3]; exact List.getElem?_set_self (List.getElem?_eq_some_iff.1 hew2).1
      refine VL.back (D' := []) (by kernel_rfl) (Pend.nil) ?_
      refine VD.to (fun _ _ h => h) ?_
      have hw : w3.l = o3.l.set m.toNat ⟨s99, s104, s109, z90.clash, s114⟩ := by rw [hw3, hw2, hw1, hw0, List.set_set, List.set_set, List.set_set]
      refine VC.region ?_
      refine VL.q (q_add rfl rfl ⟨by omega, by omega⟩) (by decide) ?_
      refine VL.q (q_move rfl) (by decide) ?_
      refine VL.any ((m + 1), w3) [0, 1, 2, 6, 7, 8, 9, 10, 11, 39, 40, 81, 82] (fun _ _ h => h) ?_ rfl (fun hp ⟨q4, q3, q2, q1, _, qm, qr⟩ => ⟨by rw [hw]; exact MA.set (l := o3.l) qm ⟨q1, q2, q3, q4⟩, qr⟩) (by (try dsimp only); exact EntO.out)
      try dsimp only
      exact ⟨⟨by omega, by rw [hw]; simp; omega, by rw [hw]; simp; omega, by rw [hw, map_set_pl hz90 (by simp [Ck.pl, hs99, hs104, hs109, hs114])]; exact hmap⟩, by rw [hw]; simp; omega⟩
    · -- else of 83
      refine VC.exit_to (fun _ _ h => h) ?_
      refine VC.seq ?_
      refine VC.shut o3 34 (fun _ q z hz => q.1 z hz) ?_
      refine VC.region ?_
      refine VL.q (q_move rfl) (by decide) ?_
      refine VL.q (q_nilCheck rfl) (by decide) ?_
      refine VL.q (q_field fa54_6 rfl) (by decide) ?_
      refine VL.q (q_fe one30 rfl rfl) (by decide) ?_
      refine VL.callF (clipC_ct o3) rfl (by decide) ?_
      rintro s128 hs128
      refine VL.q (q_assign rfl) (by decide) ?_
      refine VL.q (q_assign rfl) (by decide) ?_
      refine VL.to (fun _ _ h => h) ?_
      exact VC.ret (fin2I (.inr rfl) rfl rfl rfl s128 rfl ((by rw [hs128]; exact hmap)) (fun _ _ => trivial))

end Go.Proofs.Ytmkncbldffncpaa
end

section
namespace Go.Proofs.Ytmkncbldffncpaa
open Go.RowKit Go.V
open Go.P hiding Str
set_option maxRecDepth 100000 in
theorem clash_ct (x : Ck) (a b : Str) (h1 : x.ours.l.length ≤ 1048576) (h2 : (join x.ours.l).length ≤ 1048576) (h3 : x.theirs.l.length ≤ 1048576) (h4 : (join x.theirs.l).length ≤ 1048576) (h5 : a.length ≤ 1048576) (h6 : b.length ≤ 1048576) :
    Ct Try.prog 18 [.agg (Dat.enc x).toArray, str a, str b] x.m Ow.emp (X := Unit) (fun _ => str (clashv x.pl a b)) (fun _ => True) (fun _ => Mo.tt) (fun _ => Ow.emp) := by
  refine Ct.of Try.func18 rfl (by kernel_rfl) Try.ntmps18 (by simp) fun c => ?_
  refine VC.seq ?_
  refine VC.region ?_
  refine VL.box (cs := [x.base.val, x.ours.val, x.theirs.val, .bool x.clash, x.out.val]) rfl rfl (by decide) fun b3 => ?_
  refine VL.q (q_assign rfl) (by decide) ?_
  refine VL.to (fun _ _ h => h) ?_
  refine VC.seq ?_
  refine VC.draw ((List.range 17).map fun k => (k, true)) mixed (by kernel_rfl) (by kernel_rfl) (by kernel_rfl) ?_
  refine VD.q rfl (q_move rfl) (by decide) ?_
  refine VD.q rfl (q_cat rfl rfl (by simp; omega)) (by decide) ?_
  refine VD.q rfl (q_cat rfl rfl (by simp; omega)) (by decide) ?_
  refine VD.q rfl (q_field fa34_1 rfl) (by decide) ?_
  refine VD.q rfl (q_fe one28 rfl rfl) (by decide) ?_
  refine VD.q rfl (q_call (closed_ct x.ours (by first | assumption | omega) (by first | assumption | omega)) rfl (fun _ _ => rfl)) (by decide) ?_
  have c1 : (P.closed x.ours.l).length ≤ 1048577 := by
    unfold P.closed
    split
    · omega
    · simp; omega
  refine VD.q rfl (q_cat rfl rfl (by simp; omega)) (by decide) ?_
  refine VD.q rfl (q_cat rfl rfl (by simp; omega)) (by decide) ?_
  refine VD.q rfl (q_field fa34_2 rfl) (by decide) ?_
  refine VD.q rfl (q_fe one28 rfl rfl) (by decide) ?_
  refine VD.q rfl (q_call (closed_ct x.theirs (by first | assumption | omega) (by first | assumption | omega)) rfl (fun _ _ => rfl)) (by decide) ?_
  have c2 : (P.closed x.theirs.l).length ≤ 1048577 := by
    unfold P.closed
    split
    · omega
    · simp; omega
  refine VD.q rfl (q_cat rfl rfl (by simp; omega)) (by decide) ?_
  refine VD.q rfl (q_cat rfl rfl (by simp; omega)) (by decide) ?_
  refine VD.q rfl (q_move rfl) (by decide) ?_
  refine VD.q rfl (q_cat rfl rfl (by simp; omega)) (by decide) ?_
  refine VD.q rfl (q_cat rfl rfl (by simp; omega)) (by decide) ?_
  refine VD.q rfl (q_assign rfl) (by decide) ?_
  refine VD.to (fun _ _ h => h) ?_
  exact VC.ret (fin1I (.inr rfl) rfl rfl () (congrArg str (by simp [clashv, Ck.pl])) (trivial) (fun _ _ => trivial))

end Go.Proofs.Ytmkncbldffncpaa
end

section
/- Plain means in which the functions' bodies are written as Lean functions: guards, reads, loops. No program in sight. -/
namespace Go.S
variable {α β γ R S T : Type}
/-- An error, as data: none; a number; a fault at a part, about an error. -/
inductive Err where
  | nil
  | no (n : Int)
  | fault (part : List UInt8) (at_ : Int) (e : Err)
  deriving DecidableEq
def Err.isNil : Err → Bool
  | .nil => true
  | _ => false
/-- on, if c holds; else nothing is said -/
def gd (c : Prop) [Decidable c] (k : Option α) : Option α := if c then k else none
/-- an element at a place -/
def at_ (l : List α) (i : Int) : Option α := if 0 ≤ i then l[i.toNat]? else none
/-- on with a value by its name -/
def lt (e : α) (f : α → Option β) : Option β := f e
/-- an answer of a loop's body that ends the loop -/
def up (o : Option R) : Option (T ⊕ R) := match o with
  | none => none
  | some r => some (.inr r)
/-- an answer of a loop's body that goes on -/
def go (t : T) : Option (T ⊕ R) := some (.inl t)
/-- ways that meet -/
def jn (K : S → Option R) (F : (S → Option R) → Option R) : Option R := F K
def I64 (n : Int) : Prop := -9223372036854775808 ≤ n ∧ n ≤ 9223372036854775807
instance (n : Int) : Decidable (I64 n) := inferInstanceAs (Decidable (_ ∧ _))
def iterN (B : T → Option (T ⊕ R)) : Nat → T → Option R
  | 0, _ => none
  | n + 1, t => match B t with
    | none => none
    | some (.inl t') => iterN B n t'
    | some (.inr r) => some r
open Classical in
noncomputable def iter (B : T → Option (T ⊕ R)) (t : T) : Option R := if h : ∃ n r, iterN B n t = some r then some h.choose_spec.choose else none
/-- what a round's answer leaves to be done -/
def Step (B : T → Option (T ⊕ R)) (n : Nat) (e : R) : T ⊕ R → Prop
  | .inl t => iterN B n t = some e
  | .inr r => r = e

theorem iterN_mono {B : T → Option (T ⊕ R)} {r : R} : ∀ {n : Nat} {t : T}, iterN B n t = some r → ∀ m, n ≤ m → iterN B m t = some r
  | 0, _, h, _, _ => by cases h
  | n + 1, t, h, m, hm => by
    obtain ⟨m, rfl⟩ : ∃ k, m = k + 1 := ⟨m - 1, by omega⟩
    simp only [iterN] at h ⊢
    cases hb : B t with
    | none => rw [hb] at h; cases h
    | some y =>
      rw [hb] at h
      cases y with
      | inl t' => exact iterN_mono h m (by omega)
      | inr r' => exact h
theorem iterN_det {B : T → Option (T ⊕ R)} {r r' : R} {n m : Nat} {t : T} (h : iterN B n t = some r) (h' : iterN B m t = some r') : r = r' := by
  have a := iterN_mono h (max n m) (Nat.le_max_left _ _)
  have b := iterN_mono h' (max n m) (Nat.le_max_right _ _)
  rw [a] at b
  exact Option.some.inj b
theorem iter_of {B : T → Option (T ⊕ R)} {r : R} {n : Nat} {t : T} (h : iterN B n t = some r) : iter B t = some r := by
  have hx : ∃ n r, iterN B n t = some r := ⟨n, r, h⟩
  unfold iter
  rw [dif_pos hx]
  exact congrArg some (iterN_det hx.choose_spec.choose_spec h)
theorem iter_ex {B : T → Option (T ⊕ R)} {e : R} {t : T} (h : iter B t = some e) : ∃ n, iterN B n t = some e := by
  unfold iter at h
  split at h
  · rename_i hx
    exact ⟨hx.choose, (Option.some.inj h) ▸ hx.choose_spec.choose_spec⟩
  · cases h
theorem iterN_s {B : T → Option (T ⊕ R)} {e : R} {n : Nat} {t : T} (h : iterN B n t = some e) : ∃ m y, n = m + 1 ∧ B t = some y ∧ Step B m e y := by
  cases n with
  | zero => cases h
  | succ n =>
    simp only [iterN] at h
    cases hb : B t with
    | none => rw [hb] at h; cases h
    | some y =>
      rw [hb] at h
      cases y with
      | inl t' => exact ⟨n, _, rfl, rfl, h⟩
      | inr r' => exact ⟨n, _, rfl, rfl, Option.some.inj h⟩
/-- A loop by what holds at its head. -/
theorem iter_inv {B : T → Option (T ⊕ R)} (I : T → Prop) (μ : T → Nat) (Q : R → Prop)
    (h : ∀ t, I t → ∃ y, B t = some y ∧ match y with | .inl t' => I t' ∧ μ t' < μ t | .inr r => Q r) (t0 : T) (h0 : I t0) : ∃ r, iter B t0 = some r ∧ Q r := by
  suffices H : ∀ n t, μ t < n → I t → ∃ r, iterN B n t = some r ∧ Q r by
    obtain ⟨r, h1, h2⟩ := H (μ t0 + 1) t0 (by omega) h0
    exact ⟨r, iter_of h1, h2⟩
  intro n
  induction n with
  | zero => intro t h; omega
  | succ n ih =>
    intro t hn hI
    obtain ⟨y, hy, hm⟩ := h t hI
    simp only [iterN, hy]
    cases y with
    | inl t' => exact ih t' (by have := hm.2; omega) hm.1
    | inr r => exact ⟨r, rfl, hm⟩

/-! for the walks: what an answer tells of what was asked -/
theorem gd_s {c : Prop} [Decidable c] {k : Option α} {r : α} (h : gd c k = some r) : c ∧ k = some r := by
  unfold gd at h
  split at h
  · exact ⟨‹_›, h⟩
  · cases h
theorem bd_s {o : Option α} {f : α → Option β} {r : β} (h : o.bind f = some r) : ∃ a, o = some a ∧ f a = some r := by
  cases o with
  | none => cases h
  | some a => exact ⟨a, rfl, h⟩
theorem at_s {l : List α} {i : Int} {f : α → Option β} {r : β} (h : (at_ l i).bind f = some r) : ∃ z, 0 ≤ i ∧ l[i.toNat]? = some z ∧ f z = some r := by
  obtain ⟨z, h1, h2⟩ := bd_s h
  unfold at_ at h1
  split at h1
  · exact ⟨z, ‹_›, h1, h2⟩
  · cases h1
theorem atm_s {g : γ → α} {l : List γ} {i : Int} {f : α → Option β} {r : β} (h : (at_ (l.map g) i).bind f = some r) : ∃ z, 0 ≤ i ∧ l[i.toNat]? = some z ∧ f (g z) = some r := by
  obtain ⟨y, h0, h1, h2⟩ := at_s h
  rw [List.getElem?_map] at h1
  cases hz : l[i.toNat]? with
  | none => rw [hz] at h1; cases h1
  | some z => rw [hz] at h1; cases h1; exact ⟨z, h0, rfl, h2⟩
theorem lt_s {e : α} {f : α → Option β} {r : β} (h : lt e f = some r) : ∃ y, e = y ∧ f y = some r := ⟨e, rfl, h⟩
theorem lt_to {e p : α} {f : α → Option β} {r : β} (q : p = e) (h : lt e f = some r) : f p = some r := by subst q; exact h
theorem up_s {o : Option R} {y : T ⊕ R} (h : up o = some y) : ∃ c, o = some c ∧ y = .inr c := by
  cases o with
  | none => cases h
  | some c => cases h; exact ⟨c, rfl, rfl⟩
theorem go_s {t : T} {y : T ⊕ R} (h : go t = some y) : y = .inl t := by cases h; rfl
theorem it_t {c : Prop} [Decidable c] {a b : Option α} {r : α} (hc : c) (h : (if c then a else b) = some r) : a = some r := by rwa [if_pos hc] at h
theorem it_f {c : Prop} [Decidable c] {a b : Option α} {r : α} (hc : ¬ c) (h : (if c then a else b) = some r) : b = some r := by rwa [if_neg hc] at h
theorem jn_s {K : S → Option R} {F : (S → Option R) → Option R} {r : R} (h : jn K F = some r) : F K = some r := h
theorem lt_of_get {l : List α} {i : Int} {z : α} (h0 : 0 ≤ i) (h : l[i.toNat]? = some z) : i < l.length := by
  have := (List.getElem?_eq_some_iff.1 h).1
  omega

/-! for the laws: what an answer asks -/
/-- it has an answer, and Q holds of it -/
def Ok (o : Option α) (Q : α → Prop) : Prop := ∃ a, o = some a ∧ Q a
theorem Ok.of {o : Option α} {Q : α → Prop} {a : α} (h : o = some a) (q : Q a) : Ok o Q := ⟨a, h, q⟩
theorem Ok.eq {o : Option α} {a : α} (h : Ok o (· = a)) : o = some a := by obtain ⟨b, h, rfl⟩ := h; exact h
theorem Ok.mono {o : Option α} {Q Q' : α → Prop} (h : Ok o Q) (g : ∀ a, Q a → Q' a) : Ok o Q' := by obtain ⟨a, h, q⟩ := h; exact ⟨a, h, g a q⟩
theorem ok_some {a : α} {Q : α → Prop} : Ok (some a) Q ↔ Q a := ⟨fun ⟨_, h, q⟩ => by cases h; exact q, fun q => ⟨a, rfl, q⟩⟩
theorem ok_gd {c : Prop} [Decidable c] {k : Option α} {Q : α → Prop} : Ok (gd c k) Q ↔ c ∧ Ok k Q := by
  unfold gd
  by_cases h : c
  · simp [h]
  · simp [h, Ok]
theorem ok_bd {o : Option α} {f : α → Option β} {Q : β → Prop} : Ok (o.bind f) Q ↔ Ok o fun a => Ok (f a) Q := by
  cases o with
  | none => simp [Ok]
  | some a => simp [Ok]
theorem ok_if {c : Prop} [Decidable c] {a b : Option α} {Q : α → Prop} : Ok (if c then a else b) Q ↔ (c → Ok a Q) ∧ (¬ c → Ok b Q) := by
  by_cases h : c <;> simp [h]
theorem ok_at {l : List α} {i : Int} {Q : α → Prop} : Ok (at_ l i) Q ↔ 0 ≤ i ∧ ∃ z, l[i.toNat]? = some z ∧ Q z := by
  unfold at_
  by_cases h : 0 ≤ i <;> simp [h, Ok]
theorem ok_lt {e : α} {f : α → Option β} {Q : β → Prop} : Ok (lt e f) Q ↔ Ok (f e) Q := Iff.rfl
theorem ok_up {o : Option R} {Q : T ⊕ R → Prop} : Ok (up o) Q ↔ Ok o fun r => Q (.inr r) := by
  cases o with
  | none => simp [Ok, up]
  | some r => simp [Ok, up]
theorem ok_go {t : T} {Q : T ⊕ R → Prop} : Ok (go t) Q ↔ Q (.inl t) := ok_some
theorem ok_jn {K : S → Option R} {F : (S → Option R) → Option R} {Q : R → Prop} : Ok (jn K F) Q ↔ Ok (F K) Q := Iff.rfl
/-- a loop -/
theorem ok_iter {B : T → Option (T ⊕ R)} {t0 : T} {Q : R → Prop} (I : T → Prop) (μ : T → Nat)
    (h : ∀ t, I t → Ok (B t) fun y => match y with | .inl t' => I t' ∧ μ t' < μ t | .inr r => Q r) (h0 : I t0) : Ok (iter B t0) Q := iter_inv I μ Q h t0 h0
end Go.S
end

section
namespace Go.S
abbrev Str := List UInt8
end Go.S
end

section
namespace Go.P
def tv (a b : Str) (c : Chunk) : Str := if c.clash then clashv c a b else join c.out
def tvs (a b : Str) (l : List Chunk) : Str := (l.map (tv a b)).flatten
def nclash (l : List Chunk) : Int := (l.filter (·.clash)).length
theorem tvs_take {a b : Str} {l : List Chunk} {k : Int} {c : Chunk} (h0 : 0 ≤ k) (h : l[k.toNat]? = some c) : tvs a b (l.take (k + 1).toNat) = tvs a b (l.take k.toNat) ++ tv a b c := by
  rw [show (k + 1).toNat = k.toNat + 1 by omega, List.take_add_one, h]
  simp [tvs]
theorem nclash_take {l : List Chunk} {k : Int} {c : Chunk} (h0 : 0 ≤ k) (h : l[k.toNat]? = some c) : nclash (l.take (k + 1).toNat) = nclash (l.take k.toNat) + if c.clash then 1 else 0 := by
  rw [show (k + 1).toNat = k.toNat + 1 by omega, List.take_add_one, h]
  cases hc : c.clash <;> simp [nclash, hc]
theorem tvs_take_le (a b : Str) (l : List Chunk) (k : Nat) : (tvs a b (l.take k)).length ≤ (tvs a b l).length := by
  conv => rhs; rw [← List.take_append_drop k l]
  simp only [tvs, List.map_append, List.flatten_append, List.length_append]
  omega
theorem nclash_le (l : List Chunk) : 0 ≤ nclash l ∧ nclash l ≤ l.length := by
  have := List.length_filter_le (·.clash) l
  unfold nclash
  omega
end Go.P
end

section
set_option linter.unusedVariables false
namespace Go.S.Sh
open Go
def strings_Join0 (l : List Str) : Option Str := gd (l.length ≤ 1048576 ∧ (P.join l).length ≤ 140737488355328) (some (P.join l))
def merge_Chunks (b o t : List Str) : Option (List P.Chunk × Unit) := gd (b.length ≤ 256 ∧ o.length ≤ 256 ∧ t.length ≤ 256) (some (P.chunks b o t, ()))
noncomputable def slices_Clip_string_string (s_0 : List Str) : Option (List Str) :=
 gd ((0 : Int) ≤ (s_0.length : Int) ∧ (s_0.length : Int) ≤ (s_0.length : Int)) (
 lt (s_0.take (s_0.length : Int).toNat) (fun y8_2 =>
 some y8_2))

noncomputable def lines_Split (s_0 : Str) : Option (List Str) :=
 iter (fun ((s0_1, out3_2) : Str × List Str) =>
 if s0_1 = [] then (up ((Sh.slices_Clip_string_string out3_2).bind (fun y26_11 =>
 some y26_11)))
 else (jn (fun (i4_3 : Int) =>
 gd (I64 (i4_3 + 1)) (
 gd ((0 : Int) ≤ (i4_3 + 1) ∧ (i4_3 + 1) ≤ (s0_1.length : Int)) (
 lt (s0_1.take (i4_3 + 1).toNat) (fun y18_5 =>
 lt [y18_5] (fun y19_7 =>
 gd (out3_2.length + y19_7.length ≤ 4294967296) (
 lt (out3_2 ++ y19_7) (fun y20_9 =>
 gd (I64 (i4_3 + 1)) (
 gd ((0 : Int) ≤ (i4_3 + 1) ∧ (i4_3 + 1) ≤ (s0_1.length : Int)) (
 lt (s0_1.drop (i4_3 + 1).toNat) (fun y24_10 =>
 go (y24_10, y20_9))))))))))) (fun k4 => if (Lib.indexByte s0_1 10) < 0 then (gd (I64 ((s0_1.length : Int) - 1)) (
 k4 ((s0_1.length : Int) - 1)))
 else (k4 (Lib.indexByte s0_1 10))))) (s_0, [])

noncomputable def lines_Join (l_0 : List Str) : Option Str :=
 (strings_Join0 l_0).bind (fun y4_1 =>
 some y4_1)

noncomputable def internal_stringslite_HasSuffix (s_0 : Str) (suffix_1 : Str) : Option Bool :=
 if (suffix_1.length : Int) ≤ (s_0.length : Int) then (gd (I64 ((s_0.length : Int) - (suffix_1.length : Int))) (
 gd ((0 : Int) ≤ ((s_0.length : Int) - (suffix_1.length : Int)) ∧ ((s_0.length : Int) - (suffix_1.length : Int)) ≤ (s_0.length : Int)) (
 lt (s_0.drop ((s_0.length : Int) - (suffix_1.length : Int)).toNat) (fun y17_1 =>
 some (decide (y17_1 = suffix_1))))))
 else (some false)

noncomputable def strings_HasSuffix (s_0 : Str) (suffix_1 : Str) : Option Bool :=
 (Sh.internal_stringslite_HasSuffix s_0 suffix_1).bind (fun y7_1 =>
 some y7_1)

noncomputable def lines_Whole (s_0 : Str) : Option Bool :=
 if s_0 = [] then (some true)
 else ((Sh.strings_HasSuffix s_0 [10]).bind (fun y7_1 =>
 some y7_1))

noncomputable def merge_closed (l_0 : List Str) : Option Str :=
 (Sh.lines_Join l_0).bind (fun y5_1 =>
 (Sh.lines_Whole y5_1).bind (fun y7_2 =>
 if (!y7_2) = true then (gd (y5_1.length + [10].length ≤ 9223372036854775807) (
 lt (y5_1 ++ [10]) (fun y10_3 =>
 some y10_3)))
 else (some y5_1)))

noncomputable def merge_clash (c_0 : P.Chunk) (a_1 : Str) (b_2 : Str) : Option Str :=
 gd ([60, 60, 60, 60, 60, 60, 60, 32].length + a_1.length ≤ 9223372036854775807) (
 lt ([60, 60, 60, 60, 60, 60, 60, 32] ++ a_1) (fun y8_2 =>
 gd (y8_2.length + [10].length ≤ 9223372036854775807) (
 lt (y8_2 ++ [10]) (fun y9_3 =>
 (Sh.merge_closed c_0.ours).bind (fun y12_4 =>
 gd (y9_3.length + y12_4.length ≤ 9223372036854775807) (
 lt (y9_3 ++ y12_4) (fun y13_5 =>
 gd (y13_5.length + [61, 61, 61, 61, 61, 61, 61, 10].length ≤ 9223372036854775807) (
 lt (y13_5 ++ [61, 61, 61, 61, 61, 61, 61, 10]) (fun y14_6 =>
 (Sh.merge_closed c_0.theirs).bind (fun y17_7 =>
 gd (y14_6.length + y17_7.length ≤ 9223372036854775807) (
 lt (y14_6 ++ y17_7) (fun y18_8 =>
 gd (y18_8.length + [62, 62, 62, 62, 62, 62, 62, 32].length ≤ 9223372036854775807) (
 lt (y18_8 ++ [62, 62, 62, 62, 62, 62, 62, 32]) (fun y19_9 =>
 gd (y19_9.length + b_2.length ≤ 9223372036854775807) (
 lt (y19_9 ++ b_2) (fun y21_10 =>
 gd (y21_10.length + [10].length ≤ 9223372036854775807) (
 lt (y21_10 ++ [10]) (fun y22_11 =>
 some y22_11))))))))))))))))))

noncomputable def merge_Text (base_0 : Str) (ours_1 : Str) (theirs_2 : Str) (a_3 : Str) (b_4 : Str) : Option (Str × Int × Err) :=
 (Sh.lines_Split base_0).bind (fun y21_1 =>
 (Sh.lines_Split ours_1).bind (fun y23_2 =>
 (Sh.lines_Split theirs_2).bind (fun y25_3 =>
 (merge_Chunks y21_1 y23_2 y25_3).bind (fun y26_4 =>
 iter (fun ((n16_6, x34_7, acc_8) : Int × Int × Str) =>
 if x34_7 < (y26_4.1.length : Int) then ((at_ y26_4.1 x34_7).bind (fun z36_9 =>
 if z36_9.clash = true then (gd (I64 (n16_6 + 1)) (
 (Sh.merge_clash z36_9 a_3 b_4).bind (fun y45_11 =>
 gd (acc_8.length + y45_11.length ≤ 4294967296) (
 lt (acc_8 ++ y45_11) (fun acc46_12 =>
 gd (I64 (x34_7 + 1)) (
 go ((n16_6 + 1), (x34_7 + 1), acc46_12)))))))
 else ((Sh.lines_Join z36_9.out).bind (fun y49_13 =>
 gd (acc_8.length + y49_13.length ≤ 4294967296) (
 lt (acc_8 ++ y49_13) (fun acc50_14 =>
 gd (I64 (x34_7 + 1)) (
 go (n16_6, (x34_7 + 1), acc50_14))))))))
 else (up (some (acc_8, n16_6, Err.nil)))) (0, 0, [])))))

noncomputable def internal_stringslite_HasPrefix (s_0 : Str) (prefix_1 : Str) : Option Bool :=
 if (prefix_1.length : Int) ≤ (s_0.length : Int) then (gd ((0 : Int) ≤ (prefix_1.length : Int) ∧ (prefix_1.length : Int) ≤ (s_0.length : Int)) (
 lt (s_0.take (prefix_1.length : Int).toNat) (fun y14_1 =>
 some (decide (y14_1 = prefix_1)))))
 else (some false)

noncomputable def strings_HasPrefix (s_0 : Str) (prefix_1 : Str) : Option Bool :=
 (Sh.internal_stringslite_HasPrefix s_0 prefix_1).bind (fun y7_1 =>
 some y7_1)

noncomputable def merge_Marked_1 (x_0 : Str) : Option Bool :=
 (Sh.strings_HasPrefix x_0 [60, 60, 60, 60, 60, 60, 60, 32]).bind (fun y4_1 =>
 some y4_1)

noncomputable def slices_IndexFunc_string_string (s_0 : List Str) : Option Int :=
 iter (fun (x8_1 : Int) =>
 if x8_1 < (s_0.length : Int) then ((at_ s_0 x8_1).bind (fun z14_2 =>
 (Sh.merge_Marked_1 z14_2).bind (fun y16_3 =>
 if y16_3 = true then (up (some x8_1))
 else (gd (I64 (x8_1 + 1)) (
 go (x8_1 + 1))))))
 else (up (some (-1)))) 0

noncomputable def merge_Marked_2 (x_0 : Str) : Option Bool :=
 (Sh.strings_HasPrefix x_0 [62, 62, 62, 62, 62, 62, 62, 32]).bind (fun y4_1 =>
 some y4_1)

noncomputable def slices_IndexFunc_string_string_v2 (s_0 : List Str) : Option Int :=
 iter (fun (x8_1 : Int) =>
 if x8_1 < (s_0.length : Int) then ((at_ s_0 x8_1).bind (fun z14_2 =>
 (Sh.merge_Marked_2 z14_2).bind (fun y16_3 =>
 if y16_3 = true then (up (some x8_1))
 else (gd (I64 (x8_1 + 1)) (
 go (x8_1 + 1))))))
 else (up (some (-1)))) 0

noncomputable def slices_ContainsFunc_string_string (s_0 : List Str) : Option Bool :=
 (Sh.slices_IndexFunc_string_string_v2 s_0).bind (fun y7_1 =>
 some (decide (0 ≤ y7_1)))

noncomputable def merge_Marked (s_0 : Str) : Option Bool :=
 (Sh.lines_Split s_0).bind (fun y6_1 =>
 (Sh.slices_IndexFunc_string_string y6_1).bind (fun y8_2 =>
 if y8_2 < 0 then (some false)
 else (gd (I64 (y8_2 + 1)) (
 gd ((0 : Int) ≤ (y8_2 + 1) ∧ (y8_2 + 1) ≤ (y6_1.length : Int)) (
 lt (y6_1.drop (y8_2 + 1).toNat) (fun y14_4 =>
 (Sh.slices_ContainsFunc_string_string y14_4).bind (fun y15_5 =>
 some y15_5)))))))

noncomputable def rectolaw13_known  : Option Bool :=
 (Sh.merge_Text [97, 10, 98, 10, 99, 10] [65, 10, 98, 10, 99, 10] [97, 10, 98, 10, 67, 10] [120] [121]).bind (fun y10_1 =>
 (Sh.merge_Text [97, 10] [98, 10] [99] [120] [121]).bind (fun y15_2 =>
 lt [[97]] (fun y20_4 =>
 lt [[97]] (fun y21_6 =>
 lt [[98]] (fun y22_8 =>
 (merge_Chunks y20_4 y21_6 y22_8).bind (fun y23_9 =>
 if y10_1.2.2.isNil = true then (if y15_2.2.2.isNil = true then (if y10_1.1 = [65, 10, 98, 10, 67, 10] then (if y10_1.2.1 = 0 then (if y15_2.2.1 = 1 then (if y15_2.1 = [60, 60, 60, 60, 60, 60, 60, 32, 120, 10, 98, 10, 61, 61, 61, 61, 61, 61, 61, 10, 99, 10, 62, 62, 62, 62, 62, 62, 62, 32, 121, 10] then (if (y23_9.1.length : Int) = 1 then ((at_ y23_9.1 0).bind (fun z59_10 =>
 if (!z59_10.clash) = true then ((at_ y23_9.1 0).bind (fun z66_11 =>
 if (z66_11.out.length : Int) = 1 then ((Sh.merge_Marked y15_2.1).bind (fun y74_12 =>
 if y74_12 = true then ((Sh.merge_Marked y10_1.1).bind (fun y78_13 =>
 some (!y78_13)))
 else (some false)))
 else (some false)))
 else (some false)))
 else (some false))
 else (some false))
 else (some false))
 else (some false))
 else (some false))
 else (some false))
 else (some false)))))))

noncomputable def rectolaw13_MergeSides (a_0 : Str) (a_1 : Str) : Option Bool :=
 (Sh.rectolaw13_known).bind (fun y14_1 =>
 if (!y14_1) = true then (some false)
 else (jn (fun (x23_2 : Bool) =>
 if x23_2 = true then (some true)
 else ((Sh.merge_Text a_0 a_1 a_0 [120] [121]).bind (fun y28_4 =>
 (Sh.merge_Text a_0 a_0 a_1 [120] [121]).bind (fun y36_5 =>
 (Sh.merge_Text a_0 a_1 a_1 [120] [121]).bind (fun y44_6 =>
 if y28_4.2.2.isNil = true then (if y36_5.2.2.isNil = true then (if y44_6.2.2.isNil = true then (if y28_4.1 = a_1 then (if y36_5.1 = a_1 then (if y44_6.1 = a_1 then (gd (I64 (y28_4.2.1 + y36_5.2.1)) (
 gd (I64 ((y28_4.2.1 + y36_5.2.1) + y44_6.2.1)) (
 some (decide (((y28_4.2.1 + y36_5.2.1) + y44_6.2.1) = 0)))))
 else (some false))
 else (some false))
 else (some false))
 else (some false))
 else (some false))
 else (some false)))))) (fun k3 => if 60 < (a_0.length : Int) then (k3 true)
 else (k3 (decide (60 < (a_1.length : Int)))))))

noncomputable def rectolaw13_few (a_0 : List Str) : Option Bool :=
 if 300 < (a_0.length : Int) then (some false)
 else (iter (fun (i3_1 : Int) =>
 if i3_1 < (a_0.length : Int) then ((at_ a_0 i3_1).bind (fun z15_2 =>
 if 200 < (z15_2.length : Int) then (up (some false))
 else (gd (I64 (i3_1 + 1)) (
 go (i3_1 + 1)))))
 else (up (some true))) 0)

noncomputable def rectoref11_Equal (a_0 : List Str) (b_1 : List Str) : Option Bool :=
 if (a_0.length : Int) = (b_1.length : Int) then (iter (fun (i5_1 : Int) =>
 if i5_1 < (a_0.length : Int) then ((at_ a_0 i5_1).bind (fun z19_2 =>
 (at_ b_1 i5_1).bind (fun z23_3 =>
 if z19_2 = z23_3 then (gd (I64 (i5_1 + 1)) (
 go (i5_1 + 1)))
 else (up (some false)))))
 else (up (some true))) 0)
 else (some false)

noncomputable def rectolaw13_MergeParts (a_0 : List Str) (a_1 : List Str) (a_2 : List Str) : Option Bool :=
 (Sh.rectolaw13_known).bind (fun y13_1 =>
 if (!y13_1) = true then (some false)
 else (jn (fun (x42_2 : Bool) =>
 if x42_2 = true then (some true)
 else ((merge_Chunks a_0 a_1 a_2).bind (fun y47_7 =>
 iter (fun ((x9_8, x10_9, x11_10, x12_11) : List Str × List Str × List Str × Int) =>
 if x12_11 < (y47_7.1.length : Int) then ((at_ y47_7.1 x12_11).bind (fun z59_12 =>
 gd (x9_8.length + z59_12.base.length ≤ 4294967296) (
 lt (x9_8 ++ z59_12.base) (fun y62_14 =>
 (at_ y47_7.1 x12_11).bind (fun z66_15 =>
 gd (x10_9.length + z66_15.ours.length ≤ 4294967296) (
 lt (x10_9 ++ z66_15.ours) (fun y69_17 =>
 (at_ y47_7.1 x12_11).bind (fun z73_18 =>
 gd (x11_10.length + z73_18.theirs.length ≤ 4294967296) (
 lt (x11_10 ++ z73_18.theirs) (fun y76_20 =>
 jn (fun (x131_21 : Bool) =>
 if x131_21 = true then (up (some false))
 else (gd (I64 (x12_11 + 1)) (
 go (y62_14, y69_17, y76_20, (x12_11 + 1))))) (fun k22 => (at_ y47_7.1 x12_11).bind (fun z79_23 =>
 (at_ y47_7.1 x12_11).bind (fun z84_24 =>
 if (z84_24.out.length : Int) = 0 then ((at_ y47_7.1 x12_11).bind (fun z92_25 =>
 (at_ y47_7.1 x12_11).bind (fun z97_26 =>
 (Sh.rectoref11_Equal z92_25.ours z97_26.base).bind (fun y100_27 =>
 if (!y100_27) = true then ((at_ y47_7.1 x12_11).bind (fun z106_28 =>
 (at_ y47_7.1 x12_11).bind (fun z111_29 =>
 (Sh.rectoref11_Equal z106_28.theirs z111_29.base).bind (fun y114_30 =>
 if (!y114_30) = true then ((at_ y47_7.1 x12_11).bind (fun z120_31 =>
 (at_ y47_7.1 x12_11).bind (fun z125_32 =>
 (Sh.rectoref11_Equal z120_31.ours z125_32.theirs).bind (fun y128_33 =>
 k22 (!decide (z79_23.clash = (!y128_33)))))))
 else (k22 (!decide (z79_23.clash = false)))))))
 else (k22 (!decide (z79_23.clash = false)))))))
 else (k22 (!decide (z79_23.clash = false))))))))))))))))
 else (up ((Sh.rectoref11_Equal x9_8 a_0).bind (fun y137_34 =>
 if y137_34 = true then ((Sh.rectoref11_Equal x10_9 a_1).bind (fun y142_35 =>
 if y142_35 = true then ((Sh.rectoref11_Equal x11_10 a_2).bind (fun y147_36 =>
 some y147_36))
 else (some false)))
 else (some false))))) ([], [], [], 0)))) (fun k3 => (Sh.rectolaw13_few a_0).bind (fun y16_4 =>
 if (!y16_4) = true then (k3 true)
 else ((Sh.rectolaw13_few a_1).bind (fun y20_5 =>
 if (!y20_5) = true then (k3 true)
 else ((Sh.rectolaw13_few a_2).bind (fun y25_6 =>
 if (!y25_6) = true then (k3 true)
 else (if 40 < (a_0.length : Int) then (k3 true)
 else (if 40 < (a_1.length : Int) then (k3 true)
 else (k3 (decide (40 < (a_2.length : Int))))))))))))))

noncomputable def rectoref11_Split (s_0 : Str) : Option (List Str) :=
 iter (fun ((out3_1, from4_2, i5_3) : List Str × Int × Int) =>
 if i5_3 < (s_0.length : Int) then (jn (fun ((out3_4, from4_5) : List Str × Int) =>
 gd (I64 (i5_3 + 1)) (
 go (out3_4, from4_5, (i5_3 + 1)))) (fun k6 => (at_ s_0 i5_3).bind (fun z14_7 =>
 if (z14_7.toNat : Int) = 10 then (gd (I64 (i5_3 + 1)) (
 gd ((0 : Int) ≤ from4_2 ∧ from4_2 ≤ (i5_3 + 1) ∧ (i5_3 + 1) ≤ (s_0.length : Int)) (
 lt ((s_0.drop from4_2.toNat).take ((i5_3 + 1).toNat - from4_2.toNat)) (fun y21_8 =>
 lt [y21_8] (fun y22_10 =>
 gd (out3_1.length + y22_10.length ≤ 4294967296) (
 lt (out3_1 ++ y22_10) (fun y23_12 =>
 gd (I64 (i5_3 + 1)) (
 k6 (y23_12, (i5_3 + 1))))))))))
 else (k6 (out3_1, from4_2)))))
 else (up (if from4_2 < (s_0.length : Int) then (gd ((0 : Int) ≤ from4_2 ∧ from4_2 ≤ (s_0.length : Int)) (
 lt (s_0.drop from4_2.toNat) (fun y33_13 =>
 lt [y33_13] (fun y34_15 =>
 gd (out3_1.length + y34_15.length ≤ 4294967296) (
 lt (out3_1 ++ y34_15) (fun y35_17 =>
 some y35_17))))))
 else (some out3_1)))) ([], 0, 0)

noncomputable def rectolaw13_MergeMarked (s_0 : Str) : Option Bool :=
 (Sh.rectolaw13_known).bind (fun y7_1 =>
 if (!y7_1) = true then (some false)
 else (if 500 < (s_0.length : Int) then (some true)
 else ((Sh.rectoref11_Split s_0).bind (fun y13_2 =>
 iter (fun ((open4_3, is5_4, i6_5) : Bool × Bool × Int) =>
 if i6_5 < (y13_2.length : Int) then (jn (fun ((open4_6, is5_7) : Bool × Bool) =>
 gd (I64 (i6_5 + 1)) (
 go (open4_6, is5_7, (i6_5 + 1)))) (fun k8 => jn (fun (is5_9 : Bool) =>
 jn (fun (x50_16 : Bool) =>
 if x50_16 = true then (k8 (true, is5_9))
 else (k8 (open4_3, is5_9))) (fun k17 => (at_ y13_2 i6_5).bind (fun z39_18 =>
 if 8 ≤ (z39_18.length : Int) then ((at_ y13_2 i6_5).bind (fun z46_19 =>
 gd ((0 : Int) ≤ 8 ∧ 8 ≤ (z46_19.length : Int)) (
 lt (z46_19.take (8 : Int).toNat) (fun y48_20 =>
 k17 (decide (y48_20 = [60, 60, 60, 60, 60, 60, 60, 32]))))))
 else (k17 false)))) (fun k10 => jn (fun (x36_11 : Bool) =>
 if x36_11 = true then (k10 true)
 else (k10 is5_4)) (fun k12 => if open4_3 = true then ((at_ y13_2 i6_5).bind (fun z24_13 =>
 if 8 ≤ (z24_13.length : Int) then ((at_ y13_2 i6_5).bind (fun z32_14 =>
 gd ((0 : Int) ≤ 8 ∧ 8 ≤ (z32_14.length : Int)) (
 lt (z32_14.take (8 : Int).toNat) (fun y34_15 =>
 k12 (decide (y34_15 = [62, 62, 62, 62, 62, 62, 62, 32]))))))
 else (k12 false)))
 else (k12 false)))))
 else (up ((Sh.merge_Marked s_0).bind (fun y52_21 =>
 some (decide (y52_21 = is5_4)))))) (false, false, 0)))))

noncomputable def rectoref11_Join (l_0 : List Str) : Option Str :=
 iter (fun ((s3_1, i4_2) : Str × Int) =>
 if i4_2 < (l_0.length : Int) then ((at_ l_0 i4_2).bind (fun z14_3 =>
 gd (s3_1.length + z14_3.length ≤ 9223372036854775807) (
 lt (s3_1 ++ z14_3) (fun y16_4 =>
 gd (I64 (i4_2 + 1)) (
 go (y16_4, (i4_2 + 1)))))))
 else (up (some s3_1))) ([], 0)

noncomputable def rectolaw13_MergeTurned (a_0 : List Str) (a_1 : List Str) (a_2 : List Str) : Option Bool :=
 (Sh.rectolaw13_known).bind (fun y13_1 =>
 if (!y13_1) = true then (some false)
 else (jn (fun (x42_2 : Bool) =>
 if x42_2 = true then (some true)
 else (jn (fun (x61_7 : Bool) =>
 if x61_7 = true then (some true)
 else ((Sh.rectoref11_Join a_0).bind (fun y64_15 =>
 (Sh.rectoref11_Join a_1).bind (fun y66_16 =>
 (Sh.rectoref11_Join a_2).bind (fun y68_17 =>
 (Sh.merge_Text y64_15 y66_16 y68_17 [112] [113]).bind (fun y69_18 =>
 (Sh.rectoref11_Join a_0).bind (fun y75_19 =>
 (Sh.rectoref11_Join a_2).bind (fun y77_20 =>
 (Sh.rectoref11_Join a_1).bind (fun y79_21 =>
 (Sh.merge_Text y75_19 y77_20 y79_21 [112] [113]).bind (fun y80_22 =>
 if y69_18.2.2.isNil = true then (if y80_22.2.2.isNil = true then (if y69_18.2.1 = y80_22.2.1 then (if 0 < y69_18.2.1 then (some true)
 else (some (decide (y69_18.1 = y80_22.1))))
 else (some false))
 else (some false))
 else (some false))))))))))) (fun k8 => (Sh.rectoref11_Join a_0).bind (fun y44_9 =>
 (Sh.rectoref11_Split y44_9).bind (fun y45_10 =>
 if 60 < (y45_10.length : Int) then (k8 true)
 else ((Sh.rectoref11_Join a_1).bind (fun y50_11 =>
 (Sh.rectoref11_Split y50_11).bind (fun y51_12 =>
 if 60 < (y51_12.length : Int) then (k8 true)
 else ((Sh.rectoref11_Join a_2).bind (fun y57_13 =>
 (Sh.rectoref11_Split y57_13).bind (fun y58_14 =>
 k8 (decide (60 < (y58_14.length : Int)))))))))))))) (fun k3 => (Sh.rectolaw13_few a_0).bind (fun y16_4 =>
 if (!y16_4) = true then (k3 true)
 else ((Sh.rectolaw13_few a_1).bind (fun y20_5 =>
 if (!y20_5) = true then (k3 true)
 else ((Sh.rectolaw13_few a_2).bind (fun y25_6 =>
 if (!y25_6) = true then (k3 true)
 else (if 40 < (a_0.length : Int) then (k3 true)
 else (if 40 < (a_1.length : Int) then (k3 true)
 else (k3 (decide (40 < (a_2.length : Int))))))))))))))

noncomputable def rectolaw13_MergeFar (a_0 : Int) (a_1 : Str) (a_2 : Str) : Option Bool :=
 (Sh.rectolaw13_known).bind (fun y14_1 =>
 if (!y14_1) = true then (some false)
 else (jn (fun (x23_2 : Bool) =>
 if x23_2 = true then (some true)
 else (iter (fun (x7_4 : Int) =>
 if x7_4 < (a_1.length : Int) then ((at_ a_1 x7_4).bind (fun z32_5 =>
 if (z32_5.toNat : Int) = 10 then (up (some true))
 else (gd (I64 (x7_4 + 1)) (
 go (x7_4 + 1)))))
 else (up (iter (fun (x8_6 : Int) =>
 if x8_6 < (a_2.length : Int) then ((at_ a_2 x8_6).bind (fun z42_7 =>
 if (z42_7.toNat : Int) = 10 then (up (some true))
 else (gd (I64 (x8_6 + 1)) (
 go (x8_6 + 1)))))
 else (up (iter (fun ((x9_8, x10_9) : Str × Int) =>
 gd ((0 : Int) ≤ a_0 ∧ (10 : Int) ≠ 0) (
 gd (-9223372036854775808 ≤ (a_0 % 10) ∧ (a_0 % 10) ≤ 9223372036854775807) (
 if x10_9 < (a_0 % 10) then (gd (x9_8.length + [109].length ≤ 9223372036854775807) (
 lt (x9_8 ++ [109]) (fun y52_10 =>
 gd (I64 (48 + x10_9)) (
 gd (0 ≤ (48 + x10_9) ∧ (48 + x10_9) ≤ 255) (
 gd ((0 : Int) ≤ (48 + x10_9) ∧ (48 + x10_9) ≤ 255) (
 lt (UInt8.ofNat (48 + x10_9).toNat) (fun u56_12 =>
 lt [u56_12] (fun y56_13 =>
 gd (y52_10.length + y56_13.length ≤ 9223372036854775807) (
 lt (y52_10 ++ y56_13) (fun y58_14 =>
 gd (y58_14.length + [10].length ≤ 9223372036854775807) (
 lt (y58_14 ++ [10]) (fun y59_15 =>
 gd (I64 (x10_9 + 1)) (
 go (y59_15, (x10_9 + 1)))))))))))))))
 else (up (gd ([120, 10].length + x9_8.length ≤ 9223372036854775807) (
 lt ([120, 10] ++ x9_8) (fun y62_16 =>
 gd (y62_16.length + [121, 10].length ≤ 9223372036854775807) (
 lt (y62_16 ++ [121, 10]) (fun y63_17 =>
 gd ([97].length + a_1.length ≤ 9223372036854775807) (
 lt ([97] ++ a_1) (fun y65_18 =>
 gd (y65_18.length + [10].length ≤ 9223372036854775807) (
 lt (y65_18 ++ [10]) (fun y66_19 =>
 gd (y66_19.length + x9_8.length ≤ 9223372036854775807) (
 lt (y66_19 ++ x9_8) (fun y68_20 =>
 gd (y68_20.length + [121, 10].length ≤ 9223372036854775807) (
 lt (y68_20 ++ [121, 10]) (fun y69_21 =>
 gd ([120, 10].length + x9_8.length ≤ 9223372036854775807) (
 lt ([120, 10] ++ x9_8) (fun y71_22 =>
 gd (y71_22.length + [98].length ≤ 9223372036854775807) (
 lt (y71_22 ++ [98]) (fun y72_23 =>
 gd (y72_23.length + a_2.length ≤ 9223372036854775807) (
 lt (y72_23 ++ a_2) (fun y74_24 =>
 gd (y74_24.length + [10].length ≤ 9223372036854775807) (
 lt (y74_24 ++ [10]) (fun y75_25 =>
 (Sh.merge_Text y63_17 y69_21 y75_25 [112] [113]).bind (fun y76_26 =>
 if y76_26.2.2.isNil = true then (if y76_26.2.1 = 0 then (gd ([97].length + a_1.length ≤ 9223372036854775807) (
 lt ([97] ++ a_1) (fun y89_27 =>
 gd (y89_27.length + [10].length ≤ 9223372036854775807) (
 lt (y89_27 ++ [10]) (fun y90_28 =>
 gd (y90_28.length + x9_8.length ≤ 9223372036854775807) (
 lt (y90_28 ++ x9_8) (fun y92_29 =>
 gd (y92_29.length + [98].length ≤ 9223372036854775807) (
 lt (y92_29 ++ [98]) (fun y93_30 =>
 gd (y93_30.length + a_2.length ≤ 9223372036854775807) (
 lt (y93_30 ++ a_2) (fun y95_31 =>
 gd (y95_31.length + [10].length ≤ 9223372036854775807) (
 lt (y95_31 ++ [10]) (fun y96_32 =>
 some (decide (y76_26.1 = y96_32)))))))))))))))
 else (some false))
 else (some false))))))))))))))))))))))))))) ([109, 10], 0)))) 0))) 0)) (fun k3 => if 50 < (a_1.length : Int) then (k3 true)
 else (k3 (decide (50 < (a_2.length : Int)))))))

end Go.S.Sh
end

section
namespace Go.V
open Go.RowKit Go.S
class Ext (M0 M : Mo) : Prop where
  out : ∀ h, M.on h → M0.on h
instance (priority := 2000) Ext.refl (M : Mo) : Ext M M := ⟨fun _ x => x⟩
instance (priority := 1000) Ext.tail (M0 A B : Mo) [i : Ext M0 B] : Ext M0 (A.and B) := ⟨fun h x => i.out h x.2⟩
instance Ext.tt (M : Mo) : Ext Mo.tt M := ⟨fun _ _ => trivial⟩
instance (priority := 2500) InM.svNil {α : Type} [Dat α] (M : Mo) : InM M (⟨none, 0, []⟩ : Sv α).ok := ⟨fun _ _ => ⟨Nat.le_refl _, by simp [maxLen], fun h => absurd rfl h, fun _ _ h => by simp at h, fun _ h => by cases h⟩⟩
/-- what the elements of a slice that grows lead to -/
def MAl {α : Type} [Dat α] (l : List α) : Mo := ⟨fun h => ∀ z ∈ l, (Dat.deep z).on h, fun u x z hz => (Dat.deep z).up u (x z hz)⟩
section
variable {P : Program} {N : Nat} {c : Cx} {ops : Array Oper} {Q Q1 : Exit → Act → World → Prop} {rest : List Oper} {o : Oper} {ρ : Env} {M M' M1 M0 : Mo} {E E1 F A : Ow} {v u : Value} {X S T R : Type}
  {d : Nat} {od : Option Nat} {ty : TypeId} {pos : String} {after : Array Edge} {gd : Option (Nat × Bool)} {x y : Operand} {t t' e : TypeId} {α : Type} [Dat α] {f : FuncId} {args : List Value} {p q : Code}
/-- ways that meet -/
theorem VC.cutX {φ : S → Prop} (ρ' : S → Env) (Mx : S → Mo) (E' : S → Ow) (h1 : VC P N c (Exit.then (Any φ P N c ρ' (fun s => (Mx s).and M) E') Q) p ρ M E) (h2 : ∀ s, φ s → VC P N c Q q (ρ' s) ((Mx s).and M) (E' s)) : VC P N c Q (.seq p q) ρ M E := VC.cut φ ρ' _ E' h1 h2
theorem VC.cutJ {K : T → Option R} {G : (T → Option R) → Option R} {r : R} (pu : S → T) (ρ' : S → Env) (Mx : S → Mo) (E' : S → Ow) (hS : jn K G = some r)
    (h1 : ∀ k : T → Option R, G k = some r → VC P N c (Exit.then (Any (fun s => k (pu s) = some r) P N c ρ' (fun s => (Mx s).and M) E') Q) p ρ M E) (h2 : ∀ s, K (pu s) = some r → VC P N c Q q (ρ' s) ((Mx s).and M) (E' s)) : VC P N c Q (.seq p q) ρ M E := VC.cut (fun s => K (pu s) = some r) ρ' _ E' (h1 K hS) h2
theorem VL.mt {φ : S → Prop} {ρ' : S → Env} {Mx : S → Mo} {E' : S → Ow} (s : S) (ks : List Nat) (hq : ∀ a w, Any φ P N c ρ' (fun s => (Mx s).and M0) E' a w → Q .normal a w) (hφ : φ s) (e : ρ.keep ks = ρ' s) [i : InM M (Mx s)] [j : Ext M0 M] [l : EntO E (E' s)] : VL P N c ops Q [] ρ M E :=
  VL.any s ks hq hφ e (fun h m => ⟨i.out h m, j.out h m⟩) l.out
theorem VD.mt {D : List (Nat × Value)} {φ : S → Prop} {ρ' : S → Env} {Mx : S → Mo} {E' : S → Ow} (s : S) (ks : List Nat) (hq : ∀ a w, Any φ P N c ρ' (fun s => (Mx s).and M0) E' a w → Q .normal a w) (hφ : φ s) (e : ρ.keep ks = ρ' s) [i : InM M (Mx s)] [j : Ext M0 M] [l : EntO E (E' s)] : VD P N c ops Q [] D ρ M E :=
  VD.any s ks hq hφ e (fun h m => ⟨i.out h m, j.out h m⟩) l.out
theorem VC.skip_mt {φ : S → Prop} {ρ' : S → Env} {Mx : S → Mo} {E' : S → Ow} (s : S) (ks : List Nat) (hq : ∀ a w, Any φ P N c ρ' (fun s => (Mx s).and M0) E' a w → Q .normal a w) (hφ : φ s) (e : ρ.keep ks = ρ' s) [i : InM M (Mx s)] [j : Ext M0 M] [l : EntO E (E' s)] : VC P N c Q .skip ρ M E :=
  VC.skip_any s ks hq hφ e (fun h m => ⟨i.out h m, j.out h m⟩) l.out
theorem VC.exit_mt {id : Nat} {φ : S → Prop} {ρ' : S → Env} {Mx : S → Mo} {E' : S → Ow} (s : S) (ks : List Nat) (hq : ∀ a w, Any φ P N c ρ' (fun s => (Mx s).and M0) E' a w → Q (.exit id) a w) (hφ : φ s) (e : ρ.keep ks = ρ' s) [i : InM M (Mx s)] [j : Ext M0 M] [l : EntO E (E' s)] : VC P N c Q (.exit id) ρ M E :=
  VC.exit fun a w g st => hq a w ⟨s, hφ, g.sub (Env.sub_of e), st.mono (fun h m => ⟨i.out h m, j.out h m⟩) l.out⟩
/-- a loop that goes as its Lean function goes -/
def Rnd {S T R : Type} (B : T → Option (T ⊕ R)) (e : R) (m : Nat) (pu : S → T) (P : Program) (N : Nat) (c : Cx) (ρ' : S → Env) (Mx : S → Mo) (M0 : Mo) (E' : S → Ow) (a : Act) (w : World) : Prop :=
  ∃ (s : S) (k : Nat), iterN B k (pu s) = some e ∧ k < m + 1 ∧ Agr N (ρ' s) a ∧ St c ((Mx s).and M0) (E' s) w
theorem VC.iter {B : T → Option (T ⊕ R)} {r : R} (pu : S → T) (ρ' : S → Env) (Mx : S → Mo) (E' : S → Ow) (s0 : S) (ks : List Nat) (he : iter B (pu s0) = some r) (hρ : ρ.keep ks = ρ' s0) [i : InM M (Mx s0)] [l : EntO E (E' s0)]
    (round : ∀ s m y, B (pu s) = some y → Step B m r y → VC P N c (Exit.then (Rnd B r m pu P N c ρ' Mx M E') Q) p (ρ' s) ((Mx s).and M) (E' s)) : VC P N c Q (.loop p) ρ M E := by
  obtain ⟨n, hn⟩ := iter_ex he
  refine VC.loop (S := S × Nat) (fun s => iterN B s.2 (pu s.1) = some r) (fun s => ρ' s.1) (fun s => (Mx s.1).and M) (fun s => E' s.1) (fun s => s.2) (s0, n) ks hn hρ (fun h m => ⟨i.out h m, m⟩) l.out ?_
  rintro ⟨s, k⟩ hk
  obtain ⟨m, y, h1, h2, h3⟩ := iterN_s hk
  subst h1
  intro a w g st
  refine Code.wp_mono ?_ (round s m y h2 h3 a w g st)
  intro ex a' w' hx
  cases ex with
  | normal =>
    obtain ⟨s', k', q1, q2, q3, q4⟩ := hx
    exact ⟨(s', k'), ⟨q1, q2⟩, q3, q4⟩
  | _ => exact hx

theorem VL.rnd {B : T → Option (T ⊕ R)} {r : R} {m : Nat} {pu : S → T} {ρ' : S → Env} {Mx : S → Mo} {E' : S → Ow} (s : S) (ks : List Nat) (hq : ∀ a w, Rnd B r m pu P N c ρ' Mx M0 E' a w → Q .normal a w) (hφ : iterN B m (pu s) = some r) (e : ρ.keep ks = ρ' s) [i : InM M (Mx s)] [j : Ext M0 M] [l : EntO E (E' s)] : VL P N c ops Q [] ρ M E :=
  VL.nil fun a w g st => hq a w ⟨s, m, hφ, Nat.lt_succ_self m, g.sub (Env.sub_of e), st.mono (fun h m => ⟨i.out h m, j.out h m⟩) l.out⟩
theorem VD.rnd {D : List (Nat × Value)} {B : T → Option (T ⊕ R)} {r : R} {m : Nat} {pu : S → T} {ρ' : S → Env} {Mx : S → Mo} {E' : S → Ow} (s : S) (ks : List Nat) (hq : ∀ a w, Rnd B r m pu P N c ρ' Mx M0 E' a w → Q .normal a w) (hφ : iterN B m (pu s) = some r) (e : ρ.keep ks = ρ' s) [i : InM M (Mx s)] [j : Ext M0 M] [l : EntO E (E' s)] : VD P N c ops Q [] D ρ M E :=
  VD.nil fun a w g st => hq a w ⟨s, m, hφ, Nat.lt_succ_self m, g.sub (Env.sub_of e), st.mono (fun h m => ⟨i.out h m, j.out h m⟩) l.out⟩
theorem VC.skip_rnd {B : T → Option (T ⊕ R)} {r : R} {m : Nat} {pu : S → T} {ρ' : S → Env} {Mx : S → Mo} {E' : S → Ow} (s : S) (ks : List Nat) (hq : ∀ a w, Rnd B r m pu P N c ρ' Mx M0 E' a w → Q .normal a w) (hφ : iterN B m (pu s) = some r) (e : ρ.keep ks = ρ' s) [i : InM M (Mx s)] [j : Ext M0 M] [l : EntO E (E' s)] : VC P N c Q .skip ρ M E :=
  VC.skip fun a w g st => hq a w ⟨s, m, hφ, Nat.lt_succ_self m, g.sub (Env.sub_of e), st.mono (fun h m => ⟨i.out h m, j.out h m⟩) l.out⟩
theorem VC.exit_rnd {id : Nat} {B : T → Option (T ⊕ R)} {r : R} {m : Nat} {pu : S → T} {ρ' : S → Env} {Mx : S → Mo} {E' : S → Ow} (s : S) (ks : List Nat) (hq : ∀ a w, Rnd B r m pu P N c ρ' Mx M0 E' a w → Q (.exit id) a w) (hφ : iterN B m (pu s) = some r) (e : ρ.keep ks = ρ' s) [i : InM M (Mx s)] [j : Ext M0 M] [l : EntO E (E' s)] : VC P N c Q (.exit id) ρ M E :=
  VC.exit fun a w g st => hq a w ⟨s, m, hφ, Nat.lt_succ_self m, g.sub (Env.sub_of e), st.mono (fun h m => ⟨i.out h m, j.out h m⟩) l.out⟩
theorem up2 {B : T → Option (T ⊕ R)} {o : Option R} {y : T ⊕ R} {m : Nat} {e : R} (h : up o = some y) (k : Step B m e y) : o = some e := by
  obtain ⟨c, h1, rfl⟩ := up_s h
  rw [h1]; exact congrArg some k
theorem go2 {B : T → Option (T ⊕ R)} {t : T} {y : T ⊕ R} {m : Nat} {e : R} (h : go t = some y) (k : Step B m e y) : iterN B m t = some e := by
  cases go_s h; exact k
theorem it_b {β : Type} {b : Bool} {x y : Option β} {r : β} (hb : b = false) (h : (if b = true then x else y) = some r) : y = some r := by
  rw [hb] at h; exact h
theorem q_notn {φ : Prop} [Decidable φ] (e1 : ρ.ev x = some (.bool (!decide φ))) : Qt P N c ⟨od, .unOp .not t x, ty, pos, after, gd⟩ (.bool (decide φ)) ρ M E := by
  have := q_not (P := P) (N := N) (c := c) (M := M) (E := E) (d := od) (ty := ty) (pos := pos) (after := after) (gd := gd) (t := t) e1
  simpa using this
theorem q_catE {s s' z : List UInt8} (e1 : ρ.ev x = some (str s)) (e2 : ρ.ev y = some (str s')) (h : s.length + s'.length ≤ 9223372036854775807) (q : s ++ s' = z) : Qt P N c ⟨od, .binOp .add t x y t', ty, pos, after, gd⟩ (str z) ρ M E := by
  subst q; exact q_cat e1 e2 h
theorem q_stoE {s z : List UInt8} {k : IntKind} {n : Int} (hu : P.underlying t = some .string) (e1 : ρ.ev x = some (str s)) (e2 : ρ.ev y = some (.int k n)) (h0 : 0 ≤ n) (h1 : n ≤ s.length) (q : s.take n.toNat = z) : Qt P N c ⟨od, .slice t x none (some y) none, ty, pos, after, gd⟩ (str z) ρ M E := by
  subst q; exact q_sto hu e1 e2 h0 h1
theorem q_sfromE {s z : List UInt8} {k : IntKind} {n : Int} (hu : P.underlying t = some .string) (e1 : ρ.ev x = some (str s)) (e2 : ρ.ev y = some (.int k n)) (h0 : 0 ≤ n) (h1 : n ≤ s.length) (q : s.drop n.toNat = z) : Qt P N c ⟨od, .slice t x (some y) none none, ty, pos, after, gd⟩ (str z) ρ M E := by
  subst q; exact q_sfrom hu e1 e2 h0 h1
theorem q_smidE {s v : List UInt8} {k k' : IntKind} {z : Operand} {m n : Int} (hu : P.underlying t = some .string) (e1 : ρ.ev x = some (str s)) (e2 : ρ.ev y = some (.int k m)) (e3 : ρ.ev z = some (.int k' n)) (h0 : 0 ≤ m) (h1 : m ≤ n) (h2 : n ≤ s.length) (q : (s.drop m.toNat).take (n.toNat - m.toNat) = v) : Qt P N c ⟨od, .slice t x (some y) (some z) none, ty, pos, after, gd⟩ (str v) ρ M E := by
  subst q; exact q_smid hu e1 e2 e3 h0 h1 h2
theorem guard_bool (op : BinOp) (a b : Bool) (w : World) : (eqGuard op t x y (.bool a) (.bool b)).run P w = .ok () w := by
  unfold eqGuard
  cases op <;> simp [go_sem] <;> rfl
theorem q_beql {a b : Bool} (hu : P.underlying t = some .bool) (e1 : ρ.ev x = some (.bool a)) (e2 : ρ.ev y = some (.bool b)) : Qt P N c ⟨od, .binOp .eql t x y t', ty, pos, after, gd⟩ (.bool (decide (a = b))) ρ M E := q_bin e1 e2 (guard_bool _ _ _) fun w => by
  rw [Go.run_eql_bool w t a b hu]; cases a <;> cases b <;> rfl
theorem q_bneq {a b : Bool} (hu : P.underlying t = some .bool) (e1 : ρ.ev x = some (.bool a)) (e2 : ρ.ev y = some (.bool b)) : Qt P N c ⟨od, .binOp .neq t x y t', ty, pos, after, gd⟩ (.bool (!decide (a = b))) ρ M E := q_bin e1 e2 (guard_bool _ _ _) fun w => by
  rw [Go.run_neq_bool w t a b hu]; cases a <;> cases b <;> rfl
theorem VD.freeze {rr : List (Nat × Bool)} {D : List (Nat × Value)} (hE : Foc E A F) (h1 : ∀ h e, h.off e → M.on h → A e → M'.on (h.join e)) (k : VD P N c ops Q rr D ρ (M'.and M) F) : VD P N c ops Q rr D ρ M E := fun a w g s => k a w g (s.freeze hE h1)
theorem VD.shutB {rr : List (Nat × Bool)} {D : List (Nat × Value)} (b : Nat) {cs : List Value} {Tb : TypeId} [j : UpdB E b cs Tb F] (k : VD P N c ops Q rr D ρ ((Cells b 0 cs).and M) F) : VD P N c ops Q rr D ρ M E :=
  VD.freeze j.out (fun a q dd _ hA => Hp.at.up (Hp.le_join_right dd) (Hp.at_blk hA)) k
theorem VD.shut {rr : List (Nat × Bool)} {D : List (Nat × Value)} (s : Sv α) (e : TypeId) [j : Fo E (s.own e) F] (hd : ∀ h, M.on h → ∀ z ∈ s.l, (Dat.deep z).on h) (k : VD P N c ops Q rr D ρ (s.ok.and M) F) : VD P N c ops Q rr D ρ M E :=
  VD.freeze j.out (fun a b dd m hA => Sv.own_ok (e := a.join b) (T := e) (by
    obtain ⟨q1, q2, q3⟩ := hA
    refine ⟨q1, q2, q3.imp id fun ⟨g, cur, w1, w2, w3⟩ => ⟨g, cur, w1, Hp.le_join_right dd _ _ w2, w3⟩⟩) fun z hz => (Dat.deep z).up (Hp.le_join_left a b) (hd a m z hz)) k
/-- a slice against nil: nil is one of those without elements -/
theorem VC.slnil {s : Sv α} (e0 : ρ.ev x = some (.bool s.a.isNone)) [i : InM M s.ok] (h1 : s.l = [] → VC P N c Q p ρ M E) (h2 : VC P N c Q q ρ M E) : VC P N c Q (.cond x p q) ρ M E :=
  VC.cond e0 (fun h => VC.fact (φ := s.l = []) (fun hp m => by
    have k := (i.out hp m).2.2.1
    by_cases hl : s.l = []
    · exact hl
    · rw [k hl] at h; cases h) h1) (fun _ => h2)
theorem q_lnm {β : Type} (g : α → β) {s : Sv α} {xs : List Operand} (ht : P.underlying t = some (.slice e)) (h : ρ.evs xs = some [s.val]) : Qt P N c ⟨od, .call { callee := .builtin .len, args := xs.toArray, argTypes := #[t] }, ty, pos, after, gd⟩ (i64 (s.l.map g).length) ρ M E := by
  rw [List.length_map]; exact q_ln ht h
theorem len_m {γ β : Type} {g : γ → β} {l : List γ} {n : Int} (h : n ≤ (l.map g).length) : n ≤ l.length := by simpa using h
theorem u8_z {n : Int} {z : UInt8} (h : 0 ≤ n ∧ n ≤ 255) (e : UInt8.ofNat n.toNat = z) : n = (z.toNat : Int) := by
  subst e
  have : (UInt8.ofNat n.toNat).toNat = n.toNat := by
    rw [UInt8.toNat_ofNat']
    omega
  rw [this]
  omega
theorem ap1 {a b : Nat} (h : a + b ≤ 4294967296) : a + b ≤ 9007199254740992 := by omega
theorem ap2 {a b bt : Nat} (h : a + b ≤ 4294967296) (hb : bt ≤ 32768) : (a + b) * bt ≤ 140737488355328 := Nat.le_trans (Nat.mul_le_mul h hb) (by decide)
theorem apm {γ β : Type} {g : γ → β} {l r : List γ} (h : (l.map g).length + (r.map g).length ≤ 4294967296) : l.length + r.length ≤ 4294967296 := by simpa using h
theorem map_mid {γ β : Type} {g : γ → β} {l : List γ} {a b : Nat} : ((l.drop a).take b).map g = ((l.map g).drop a).take b := by rw [List.map_take, List.map_drop]
theorem VL.sto {s : Sv α} {n : Int} (hu : P.underlying t = some (.slice e)) (hz : (P.info? e).map (·.size) = some (Dat.sz α)) (e0 : ρ.ev x = some s.val) (e1 : ρ.ev y = some (i64 n)) [hs : InM M s.ok] (h0 : 0 ≤ n) (h1 : n ≤ s.l.length) (hd : d < N)
    (kk : ∀ q : Sv α, q.l = s.l.take n.toNat → VL P N c ops Q rest ((d, q.val) :: ρ) (q.ok.and M) E) : VL P N c ops Q (⟨some d, .slice t x none (some y) none, ty, pos, after, none⟩ :: rest) ρ M E :=
  VL.part (lo' := none) (hi' := some n) (mx' := none) 0 n.toNat hu hz e0 rfl (by simp [optv, e1]) rfl rfl (by simp; omega) (.inl rfl) (fun _ => rfl) (by omega) (by omega) hd fun q hq => kk q (by rw [hq]; simp)
theorem VL.sfrom {s : Sv α} {n : Int} (hu : P.underlying t = some (.slice e)) (hz : (P.info? e).map (·.size) = some (Dat.sz α)) (e0 : ρ.ev x = some s.val) (e1 : ρ.ev y = some (i64 n)) [hs : InM M s.ok] (h0 : 0 ≤ n) (h1 : n ≤ s.l.length) (hd : d < N)
    (kk : ∀ q : Sv α, q.l = s.l.drop n.toNat → VL P N c ops Q rest ((d, q.val) :: ρ) (q.ok.and M) E) : VL P N c ops Q (⟨some d, .slice t x (some y) none none, ty, pos, after, none⟩ :: rest) ρ M E :=
  VL.part (lo' := some n) (hi' := none) (mx' := none) n.toNat s.l.length hu hz e0 (by simp [optv, e1]) rfl rfl (by simp; omega) rfl (.inl rfl) (fun h => by cases h) (by omega) (by omega) hd fun q hq => kk q (by rw [hq, List.take_of_length_le (by simp)])
theorem VL.smid {s : Sv α} {z : Operand} {m n : Int} (hu : P.underlying t = some (.slice e)) (hz : (P.info? e).map (·.size) = some (Dat.sz α)) (e0 : ρ.ev x = some s.val) (e1 : ρ.ev y = some (i64 m)) (e2 : ρ.ev z = some (i64 n)) [hs : InM M s.ok] (h0 : 0 ≤ m) (h1 : m ≤ n) (h2 : n ≤ s.l.length) (hd : d < N)
    (kk : ∀ q : Sv α, q.l = (s.l.drop m.toNat).take (n.toNat - m.toNat) → VL P N c ops Q rest ((d, q.val) :: ρ) (q.ok.and M) E) : VL P N c ops Q (⟨some d, .slice t x (some y) (some z) none, ty, pos, after, none⟩ :: rest) ρ M E :=
  VL.part (lo' := some m) (hi' := some n) (mx' := none) m.toNat n.toNat hu hz e0 (by simp [optv, e1]) (by simp [optv, e2]) rfl (by simp; omega) (by simp; omega) (.inl rfl) (fun h => by cases h) (by omega) (by omega) hd fun q hq => kk q hq
theorem VL.stom {s : Sv α} {z : Operand} {n : Int} (hu : P.underlying t = some (.slice e)) (hz : (P.info? e).map (·.size) = some (Dat.sz α)) (e0 : ρ.ev x = some s.val) (e1 : ρ.ev y = some (i64 n)) (e2 : ρ.ev z = some (i64 n)) [hs : InM M s.ok] (h0 : 0 ≤ n) (h1 : n ≤ s.l.length) (hd : d < N)
    (kk : ∀ q : Sv α, q.l = s.l.take n.toNat → VL P N c ops Q rest ((d, q.val) :: ρ) (q.ok.and M) E) : VL P N c ops Q (⟨some d, .slice t x none (some y) (some z), ty, pos, after, none⟩ :: rest) ρ M E :=
  VL.part (lo' := none) (hi' := some n) (mx' := some n) 0 n.toNat hu hz e0 rfl (by simp [optv, e1]) (by simp [optv, e2]) rfl (by simp; omega) (.inr (by congr 1; omega)) (fun _ => rfl) (by omega) (by omega) hd fun q hq => kk q (by rw [hq]; simp)
theorem VL.s00 {s : Sv α} {z : Operand} (hu : P.underlying t = some (.slice e)) (hz : (P.info? e).map (·.size) = some (Dat.sz α)) (e0 : ρ.ev x = some s.val) (e1 : ρ.ev y = some (i64 0)) (e2 : ρ.ev z = some (i64 0)) (hd : d < N)
    (kk : ∀ q : Sv α, q.l = [] → q.c = 0 → VL P N c ops Q rest ((d, q.val) :: ρ) M E) : VL P N c ops Q (⟨some d, .slice t x none (some y) (some z), ty, pos, after, none⟩ :: rest) ρ M E :=
  VL.q (q_cut (lo' := none) (hi' := some 0) (mx' := some 0) 0 0 0 hu hz e0 rfl (by simp [optv, e1]) (by simp [optv, e2]) rfl rfl rfl (fun _ => rfl) (Nat.le_refl _) (Nat.le_refl _) (Nat.zero_le _) (Nat.zero_le _)) hd (kk _ rfl rfl)
theorem VD.sto {k' : Nat} {rr : List (Nat × Bool)} {D : List (Nat × Value)} {s : Sv α} {n : Int} (hk : ops[k']? = some ⟨some d, .slice t x none (some y) none, ty, pos, after, none⟩) (hu : P.underlying t = some (.slice e)) (hz : (P.info? e).map (·.size) = some (Dat.sz α)) (e0 : ρ.ev x = some s.val) (e1 : ρ.ev y = some (i64 n)) [hs : InM M s.ok] (h0 : 0 ≤ n) (h1 : n ≤ s.l.length) (hd : d < N)
    (kk : ∀ (q : Sv α) (u : Value), q.l = s.l.take n.toNat → VD P N c ops Q rr (addD ops k' u D) ((d, q.val) :: ρ) (q.ok.and M) E) : VD P N c ops Q ((k', true) :: rr) D ρ M E :=
  VD.part (lo' := none) (hi' := some n) (mx' := none) hk 0 n.toNat hu hz e0 rfl (by simp [optv, e1]) rfl rfl (by simp; omega) (.inl rfl) (fun _ => rfl) (by omega) (by omega) hd fun q u hq => kk q u (by rw [hq]; simp)
theorem VD.sfrom {k' : Nat} {rr : List (Nat × Bool)} {D : List (Nat × Value)} {s : Sv α} {n : Int} (hk : ops[k']? = some ⟨some d, .slice t x (some y) none none, ty, pos, after, none⟩) (hu : P.underlying t = some (.slice e)) (hz : (P.info? e).map (·.size) = some (Dat.sz α)) (e0 : ρ.ev x = some s.val) (e1 : ρ.ev y = some (i64 n)) [hs : InM M s.ok] (h0 : 0 ≤ n) (h1 : n ≤ s.l.length) (hd : d < N)
    (kk : ∀ (q : Sv α) (u : Value), q.l = s.l.drop n.toNat → VD P N c ops Q rr (addD ops k' u D) ((d, q.val) :: ρ) (q.ok.and M) E) : VD P N c ops Q ((k', true) :: rr) D ρ M E :=
  VD.part (lo' := some n) (hi' := none) (mx' := none) hk n.toNat s.l.length hu hz e0 (by simp [optv, e1]) rfl rfl (by simp; omega) rfl (.inl rfl) (fun h => by cases h) (by omega) (by omega) hd fun q u hq => kk q u (by rw [hq, List.take_of_length_le (by simp)])
/-- a struct inside an own block -/
theorem q_fep {b j n : Nat} {cs vs : List Value} {Tb : TypeId} (h1 : AggOf P t n) (e1 : ρ.ev x = some (ptr b j)) [i : HasB E b cs Tb] (hv : (cs.drop j).take n = vs) (hn : vs.length = n) : Qt P N c ⟨od, .load t x, ty, pos, after, gd⟩ (.agg vs.toArray) ρ M E :=
  q_loads h1 hn e1 fun a b' dd m ee k u hk => by
    have := Rd.blk (M := M) (i := i) a b' dd m ee (j + k) u (by
      subst hv
      rw [List.getElem?_take] at hk
      split at hk
      · rw [List.getElem?_drop] at hk; exact hk
      · cases hk)
    rwa [Nat.zero_add] at this
theorem wi64_in {n : Int} (h : -9223372036854775808 ≤ n ∧ n ≤ 9223372036854775807) : IntKind.i64.wrap n = n := IntWalk.i64_in _ h
theorem wu64_in {n : Int} (h : 0 ≤ n ∧ n ≤ 18446744073709551615) : IntKind.u64.wrap n = n := IntWalk.u64_in _ (by omega)
theorem wu8_in {n : Int} (h : 0 ≤ n ∧ n ≤ 255) : IntKind.u8.wrap n = n := IntWalk.u8_in _ (by omega)
theorem wu32_in {n : Int} (h : 0 ≤ n ∧ n ≤ 4294967295) : IntKind.u32.wrap n = n := IntWalk.u32_in _ (by omega)
theorem wi32_in {n : Int} (h : -2147483648 ≤ n ∧ n ≤ 2147483647) : IntKind.i32.wrap n = n := IntWalk.i32_in _ (by omega)
theorem wr_i64 (u : UInt8) : IntKind.i64.wrap (u.toNat : Int) = (u.toNat : Int) := IntWalk.i64_in _ (by have := u.toNat_lt; omega)
theorem VL.deep (X : Mo) {s : Sv α} {i : Nat} {z : α} (hz : s.l[i]? = some z) [hs : InM M s.ok] (hX : ∀ h, (Dat.deep z).on h → X.on h) (k : VL P N c ops Q rest ρ (X.and M) E) : VL P N c ops Q rest ρ M E :=
  VL.addM X (fun h m => hX h ((hs.out h m).2.2.2.2 z (List.mem_of_getElem? hz))) k
theorem VD.deep {rr : List (Nat × Bool)} {D : List (Nat × Value)} (X : Mo) {s : Sv α} {i : Nat} {z : α} (hz : s.l[i]? = some z) [hs : InM M s.ok] (hX : ∀ h, (Dat.deep z).on h → X.on h) (k : VD P N c ops Q rr D ρ (X.and M) E) : VD P N c ops Q rr D ρ M E :=
  VD.addM X (fun h m => hX h ((hs.out h m).2.2.2.2 z (List.mem_of_getElem? hz))) k
theorem VL.deepO (X : Mo) {s : Sv α} {i : Nat} {z : α} (hz : s.l[i]? = some z) [hs : InM M (MAl s.l)] (hX : ∀ h, (Dat.deep z).on h → X.on h) (k : VL P N c ops Q rest ρ (X.and M) E) : VL P N c ops Q rest ρ M E :=
  VL.addM X (fun h m => hX h (hs.out h m z (List.mem_of_getElem? hz))) k
theorem VD.deepO {rr : List (Nat × Bool)} {D : List (Nat × Value)} (X : Mo) {s : Sv α} {i : Nat} {z : α} (hz : s.l[i]? = some z) [hs : InM M (MAl s.l)] (hX : ∀ h, (Dat.deep z).on h → X.on h) (k : VD P N c ops Q rr D ρ (X.and M) E) : VD P N c ops Q rr D ρ M E :=
  VD.addM X (fun h m => hX h (hs.out h m z (List.mem_of_getElem? hz))) k
/-- a slice of one's own that grows: what its elements lead to -/
theorem VL.maApp {s s' r : Sv α} (h : s'.l = s.l ++ r.l) [i : InM M (MAl s.l)] [j : InM M r.ok] (k : VL P N c ops Q rest ρ ((MAl s'.l).and M) E) : VL P N c ops Q rest ρ M E :=
  VL.addM (MAl s'.l) (fun hp m z hz => by
    rw [h] at hz
    rcases List.mem_append.1 hz with q | q
    · exact i.out hp m z q
    · exact (j.out hp m).2.2.2.2 z q) k
theorem VL.maNil {s : Sv α} (h : s.l = []) (k : VL P N c ops Q rest ρ ((MAl s.l).and M) E) : VL P N c ops Q rest ρ M E :=
  VL.addM (MAl s.l) (fun hp m z hz => by rw [h] at hz; cases hz) k
theorem VC.maNil {s : Sv α} {q : Code} (h : s.l = []) (k : VC P N c Q q ρ ((MAl s.l).and M) E) : VC P N c Q q ρ M E :=
  VC.addM (MAl s.l) (fun hp m z hz => by rw [h] at hz; cases hz) k
end
end Go.V
end

section
namespace Go.V
open Go.RowKit Go.S
/-- the numbers of the types that an error has in a program -/
class ErNo where
  no : TypeId
  pf : TypeId
/-- an error, with its places -/
inductive Er where
  | nil
  | no (n : Int)
  | fault (b : Nat) (part : Str) (at_ : Int) (e : Er)
def Er.val [i : ErNo] : Er → Value
  | .nil => .nilIface
  | .no n => .iface i.no (i64 n)
  | .fault b _ _ _ => .iface i.pf (ptr b 0)
def Er.ok [ErNo] : Er → Mo
  | .nil => Mo.tt
  | .no _ => Mo.tt
  | .fault b p a e => (Cells b 0 [str p, i64 a, e.val]).and e.ok
def Er.pl : Er → Err
  | .nil => .nil
  | .no n => .no n
  | .fault _ p a e => .fault p a e.pl
def Er.isNil : Er → Bool
  | .nil => true
  | _ => false
theorem Er.isNil_pl (e : Er) : e.pl.isNil = e.isNil := by cases e <;> rfl
section
variable [ErNo]
instance (priority := 2500) InM.erNil (M : Mo) : InM M Er.nil.ok := ⟨fun _ _ => trivial⟩
instance (priority := 2500) InM.erNo (M : Mo) (n : Int) : InM M (Er.no n).ok := ⟨fun _ _ => trivial⟩
instance (priority := 2500) InM.erFault (M : Mo) (b : Nat) (p : Str) (a : Int) (e : Er) [i : InM M (Cells b 0 [str p, i64 a, e.val])] [j : InM M e.ok] : InM M (Er.fault b p a e).ok := ⟨fun h x => ⟨i.out h x, j.out h x⟩⟩
instance : Dat Er := ⟨1, fun e => [e.val], fun _ => rfl, fun _ u h => by cases List.mem_singleton.1 h; rename_i e; cases e <;> rfl, Er.ok⟩
variable {P : Program} {N : Nat} {c : Cx} {ops : Array Oper} {Q Q1 : Exit → Act → World → Prop} {rest : List Oper} {o : Oper} {ρ : Env} {M M' M1 M0 : Mo} {E E1 F A : Ow} {v u : Value} {X S T R : Type}
  {d : Nat} {od : Option Nat} {ty : TypeId} {pos : String} {after : Array Edge} {gd : Option (Nat × Bool)} {x y : Operand} {t t' e : TypeId}
theorem q_ereq {ms : Array (String × TypeId)} (ht : P.underlying t = some (.interface ms)) {z : Er} (h : ρ.ev x = some z.val) : Qt P N c ⟨od, .binOp .eql t x (.const .nilIface) t', ty, pos, after, gd⟩ (.bool (decide (z.pl.isNil = true))) ρ M E := by
  cases z with
  | nil => exact q_nileq ht h
  | no n => exact q_ifeq ht h
  | fault b p a e => exact q_ifeq ht h
theorem q_erne {ms : Array (String × TypeId)} (ht : P.underlying t = some (.interface ms)) {z : Er} (h : ρ.ev x = some z.val) : Qt P N c ⟨od, .binOp .neq t x (.const .nilIface) t', ty, pos, after, gd⟩ (.bool (!decide (z.pl.isNil = true))) ρ M E := by
  cases z with
  | nil => exact q_nilne ht h
  | no n => exact q_ifne ht h
  | fault b p a e => exact q_ifne ht h
end
section
variable {P : Program} {N : Nat} {c : Cx} {ops : Array Oper} {Q Q1 : Exit → Act → World → Prop} {rest : List Oper} {o : Oper} {ρ : Env} {M M' M1 M0 : Mo} {E E1 F A : Ow} {v u : Value} {X S T R : Type}
  {d : Nat} {od : Option Nat} {ty : TypeId} {pos : String} {after : Array Edge} {gd : Option (Nat × Bool)} {x y : Operand} {t t' e : TypeId} {α : Type} [Dat α] {f : FuncId} {args : List Value}
/-- a guarded operation that is carried out: as one without a guard -/
theorem VL.guard {op : Op} {j s : Nat} {w : Bool} (hj : (ops[j]?).bind (·.dst) = some s) (hb : ρ.get s = some (.bool w))
    (k : VL P N c ops Q (⟨od, op, ty, pos, after, none⟩ :: rest) ρ M E) : VL P N c ops Q (⟨od, op, ty, pos, after, some (j, w)⟩ :: rest) ρ M E := fun a w' x y => by
  have h := k a w' x y
  unfold wpList at h ⊢
  rw [if_pos (by rw [wanted_of hj x hb _ rfl]; simp)]
  rw [if_pos (by rfl)] at h
  exact h
/-- a result, and how it comes to be -/
inductive RVs (P : Program) (ρ : Env) (M : Mo) (E : Ow) : List ResultVar → List Value → Prop
  | nil : RVs P ρ M E [] []
  | tmp {t : Nat} {v : Value} {rs : List ResultVar} {vs : List Value} (h : ρ.get t = some v) (r : RVs P ρ M E rs vs) : RVs P ρ M E (.tmp t :: rs) (v :: vs)
  | cell {t b n : Nat} {T : TypeId} {cs : List Value} {rs : List ResultVar} {vs : List Value} (hT : AggOf P T n) (h : ρ.get t = some (ptr b 0)) (hn : cs.length = n) (hb : Rd M E b 0 cs) (r : RVs P ρ M E rs vs) : RVs P ρ M E (.cell t T :: rs) (.agg cs.toArray :: vs)
  | cell1 {t b : Nat} {T : TypeId} {v : Value} {rs : List ResultVar} {vs : List Value} (hT : OneCell P T) (h : ρ.get t = some (ptr b 0)) (hb : Rd M E b 0 [v]) (r : RVs P ρ M E rs vs) : RVs P ρ M E (.cell t T :: rs) (v :: vs)
theorem mapM_list {β γ : Type} (g : β → Sem γ) (w : World) : ∀ (l : List β) (r : List γ), (∀ (i : Nat) (x : β) (y : γ), l[i]? = some x → r[i]? = some y → (g x).run P w = .ok y w) → l.length = r.length → (l.mapM g).run P w = .ok r w
  | [], [], _, _ => by simp
  | [], _ :: _, _, h => by simp at h
  | _ :: _, [], _, h => by simp at h
  | x :: l, y :: r, h, hl => by
    have ih := mapM_list g w l r (fun i => h (i + 1)) (by simpa using hl)
    rw [List.mapM_cons]
    simp only [Sem.run_bind, h 0 x y rfl rfl, Result.andThen_ok, ih, Sem.run_pure]
theorem RVs.len {rs : List ResultVar} {vs : List Value} (h : RVs P ρ M E rs vs) : rs.length = vs.length := by induction h <;> simp_all
theorem RVs.run {rs : List ResultVar} {vs : List Value} (h : RVs P ρ M E rs vs) {a : Act} {w : World} (g : Agr N ρ a) (s : St c M E w) : ∀ (i : Nat) (x : ResultVar) (y : Value), rs[i]? = some x → vs[i]? = some y →
    ((match x with
      | .tmp t => pure (a.tmps.getD t undef)
      | .cell b t => do loadVar t (← asAddr (a.tmps.getD b undef)) : Sem Value)).run P w = .ok y w := by
  induction h with
  | nil => intro i x y hx; simp at hx
  | tmp h r ih =>
    intro i x y hx hy
    cases i with
    | zero => simp only [List.getElem?_cons_zero, Option.some.injEq] at hx hy; subst hx; subst hy; simp [g.tmp h]
    | succ i => exact ih i x y (by simpa using hx) (by simpa using hy)
  | @cell t b n T cs rs vs hT h hn hb r ih =>
    intro i x y hx hy
    cases i with
    | zero =>
      simp only [List.getElem?_cons_zero, Option.some.injEq] at hx hy; subst hx; subst hy
      have hl := run_loadCells_list (P := P) w ⟨b, 0, none⟩ cs (fun j u hj => by rw [add_none]; exact hb.cell s hj)
      have hlv : (loadVar T ⟨b, 0, none⟩).run P w = .ok (.agg cs.toArray) w := by
        simp only [loadVar, Sem.run_bind, (hT w).1, (hT w).2, Result.andThen_ok, if_true, ← hn, hl, Sem.run_pure]
      have ha : (asAddr (ptr b 0)).run P w = .ok ⟨b, 0, none⟩ w := rfl
      simp only [g.tmp h, Sem.run_bind, ha, Result.andThen_ok, hlv]
    | succ i => exact ih i x y (by simpa using hx) (by simpa using hy)
  | @cell1 t b T v rs vs hT h hb r ih =>
    intro i x y hx hy
    cases i with
    | zero =>
      simp only [List.getElem?_cons_zero, Option.some.injEq] at hx hy; subst hx; subst hy
      have hc := hb.cell s (j := 0) rfl
      simp only [Nat.add_zero] at hc
      have hlv : (loadVar T ⟨b, 0, none⟩).run P w = .ok v w := by
        simp only [loadVar, Sem.run_bind, hT w, Result.andThen_ok]
        simp [load, Sem.run, hc, go_sem]
      have ha : (asAddr (ptr b 0)).run P w = .ok ⟨b, 0, none⟩ w := rfl
      simp only [g.tmp h, Sem.run_bind, ha, Result.andThen_ok, hlv]
    | succ i => exact ih i x y (by simpa using hx) (by simpa using hy)
def retv : List Value → Value
  | [v] => v
  | vs => .tuple vs.toArray
theorem finG {fn : Func} {val : X → Value} {φ : X → Prop} {M2 : X → Mo} {E2 : X → Ow} {rs : List ResultVar} {vs : List Value} {y : Exit} (hy : y = .normal ∨ y = .ret) (hres : fn.results = rs.toArray) (hv : RVs P ρ M E rs vs) (x : X) (hx : retv vs = val x) (hφ : φ x) (h1 : ∀ h, M.on h → (M2 x).on h) (h2 : ∀ e, E e → E2 x e) :
    ∀ a w, Agr N ρ a → St c M E w → bodyPost P fn (fun en w' => ∃ r, en = .returned r ∧ Post val φ M2 E2 c r w') y a w := fun a w g s => by
  refine post_ret hy (v := retv vs) ?_ g.defers ⟨_, rfl, x, hx, hφ, s.mono h1 h2⟩
  unfold results
  rw [hres]
  have h := mapM_list (P := P) _ w rs vs (hv.run g s) hv.len
  simp only [List.mapM_toArray, Sem.run_bind, Sem.run_map]
  erw [h]
  simp only [Result.andThen_ok, Sem.run_pure]
  congr 1
  cases vs with
  | nil => rfl
  | cons v vs => cases vs <;> simp [retv]
end
end Go.V
end

section
namespace Go.V
open Go.RowKit
section
variable {P : Program} {t t' e : TypeId}
theorem run_appS0 {w : World} {ts : TypeId} {i : TypeInfo} (hu : P.underlying t = some (.slice e)) (hs : P.underlying t' = some .string) (hi : P.info? e = some i) (hsz : i.size = 1) (a : Option Addr) (n c : Nat) (hlc : n ≤ c) :
   (Builtin.append_ #[t, t'] ts #[.slice a n c, .string ⟨⟨[]⟩⟩]).run P w = .ok (.slice a n c) w := by
  have hf := Lib.run_firstCells_string (P := P) w 1 ⟨⟨[]⟩⟩
  have h0 : (⟨⟨[]⟩⟩ : ByteArray).size = 0 := rfl
  rw [h0] at hf
  cases a <;> simp [Builtin.append_, run_underlying hu, run_underlying hs, sizeOf, typeInfo, hi, hsz, Builtin.lenOf, h0, hlc, hf, Lib.strCells, storeCells]
end
open Go.S
instance : Dat UInt8 := ⟨1, fun u => [.int .u8 u.toNat], fun _ => rfl, fun _ _ h => by cases List.mem_singleton.1 h; rfl, fun _ => Mo.tt⟩
instance : Flat UInt8 := ⟨fun _ => rfl⟩
theorem enc_str (l : Str) : l.flatMap (Dat.enc (α := UInt8)) = Lib.strCells ⟨⟨l⟩⟩ := by
  unfold Lib.strCells
  induction l with
  | nil => rfl
  | cons x r ih => simp only [List.flatMap_cons, ih]; rfl
section
variable {P : Program} {N : Nat} {c : Cx} {ops : Array Oper} {Q Q1 : Exit → Act → World → Prop} {rest : List Oper} {o : Oper} {ρ : Env} {M M' M1 M0 : Mo} {E E1 F A : Ow} {v u : Value} {X S T R : Type}
  {d : Nat} {od : Option Nat} {ty : TypeId} {pos : String} {after : Array Edge} {gd : Option (Nat × Bool)} {x y : Operand} {t t' e tb : TypeId} {f : FuncId} {args : List Value}
/-- a text's bytes behind a slice of one's own -/
theorem run_appS {w : World} {h z : Hp} {s : Sv UInt8} {r : Str} {ts : TypeId} {i : TypeInfo} (hu : P.underlying t = some (.slice e)) (hs : P.underlying t' = some .string) (hi : P.info? e = some i) (hz : i.zero = some (.int .u8 0)) (hsz : i.size = 1) (hby : i.bytes = 1)
    (hoff : h.off z) (l : h.le (wh w)) (k : z.le (wh w)) (ho : s.own e z) (hlen : s.l.length + r.length ≤ 4294967296) :
    ∃ (s' : Sv UInt8) (w' : World), (Builtin.append_ #[t, t'] ts #[s.val, str r]).run P w = .ok s'.val w' ∧ s'.l = s.l ++ r ∧ ((s.c = 0 → s.a = none) → s'.c = 0 → s'.a = none) ∧ St ⟨w, h, fun b => z b ≠ none⟩ Mo.tt (s'.own e) w' := by
  have hmax : s.l.length + r.length ≤ maxLen := by unfold maxLen; omega
  have hd : Dat.sz UInt8 = 1 := rfl
  have hrs : (⟨⟨r⟩⟩ : ByteArray).size = r.length := rfl
  obtain ⟨hlc, hcm, hcase⟩ := ho
  by_cases hr0 : r = []
  · have hrun : (Builtin.append_ #[t, t'] ts #[s.val, str r]).run P w = .ok s.val w := by
      rw [hr0]; exact run_appS0 hu hs hi hsz _ _ _ hlc
    refine ⟨s, w, hrun, by simp [hr0], fun q => q, ?_⟩
    rcases hcase with ⟨hl, hc⟩ | ⟨g, cur, ha, hg, hcs, ht⟩
    · exact ⟨⟨h, Hp.nil, trivial, ⟨hlc, hcm, .inl ⟨hl, hc⟩⟩, Hp.nil_off _, l, (fun b p hb => by cases hb), Hp.le.refl h, (fun b hb => .inl hb), (fun b hb => absurd rfl hb)⟩, fun b _ _ => rfl, rfl, rfl, rfl, Nat.le_refl _⟩
    · exact St.turn (A := s.own e) hg hoff trivial l ⟨hlc, hcm, .inr ⟨g, cur, ha, Hp.one_self _ _, hcs, ht⟩⟩ rfl (k _ _ hg) (fun _ _ => rfl) rfl rfl rfl
  · have hrp : 0 < r.length := List.length_pos_iff.2 hr0
    have hcap : ∀ old, s.l.length + r.length ≤ grownCap w (s.l.length + r.length) old e ∧ grownCap w (s.l.length + r.length) old e ≤ maxLen := fun old => ⟨grownCap_ge _ _ _ _, grownCap_le_maxLen _ _ _ _ hmax⟩
    have hz1 : (Value.int IntKind.u8 0).cells.size = 1 := rfl
    have hgrown : ∀ old, St ⟨w, h, fun b => z b ≠ none⟩ Mo.tt ((⟨some ⟨w.heap.size, 0, none⟩, grownCap w (s.l.length + r.length) old e, s.l ++ r⟩ : Sv UInt8).own e)
        (w.drew.alloc (.cells ((s.l.flatMap Dat.enc).toArray ++ (Lib.strCells ⟨⟨r⟩⟩).toArray ++ Builtin.zeroCells (Value.int .u8 0).cells (grownCap w (s.l.length + r.length) old e - (s.l.length + r.length))) e)) := fun old => by
      rw [← enc_str]
      refine St.newO (A := Sv.own _ e) (o := .cells ((s.l.flatMap Dat.enc).toArray ++ (r.flatMap Dat.enc).toArray ++ Builtin.zeroCells (Value.int .u8 0).cells (grownCap w (s.l.length + r.length) old e - (s.l.length + r.length))) e) ?_ trivial l ((Gr.drew w).trans (Gr.alloc w.drew _)) (heap_alloc_new w.drew _)
      refine ⟨by simpa using (hcap old).1, (hcap old).2, .inr ⟨_, _, rfl, Hp.one_self _ _, ?_, ?_⟩⟩
      · simp only [Array.size_append, List.size_toArray, size_zeroCells, hz1, hd, enc_len, Nat.mul_one]
        have := (hcap old).1
        omega
      · have e1 : (s.l ++ r).length * Dat.sz UInt8 = ((s.l.flatMap Dat.enc) ++ (r.flatMap Dat.enc)).length := by rw [List.length_append, List.length_append, enc_len, enc_len, Nat.add_mul]
        simp only [Array.toList_append, e1]
        rw [List.take_left]
        simp
    rcases hcase with ⟨hl, hc⟩ | ⟨g, cur, ha, hg, hcs, ht⟩
    · have hg0 := hgrown 0
      rw [hl] at hg0 hcap
      simp only [List.flatMap_nil, List.length_nil, Nat.zero_add, List.nil_append, Array.empty_append] at hg0 hcap
      refine ⟨⟨some ⟨w.heap.size, 0, none⟩, grownCap w r.length 0 e, r⟩, _, ?_, by rw [hl]; rfl, fun _ q => by have := (hcap 0).1; simp only at q; omega, hg0⟩
      cases hsa : s.a with
      | none =>
        have hsv : s.val = .slice none 0 0 := by unfold Sv.val; rw [hsa, hl, hc]; rfl
        have hrun := run_append_nil_string (P := P) w t t' ts e i (.int .u8 0) hu hs hi hz ⟨⟨r⟩⟩ (by rw [hrs]; omega) (by rw [hrs]; omega) (by rw [hrs, hby]; omega)
        have e1 : ((⟨⟨r⟩⟩ : ByteArray).data.map fun b => Value.int .u8 b.toNat) = (Lib.strCells ⟨⟨r⟩⟩).toArray := by
          apply Array.ext'
          simp [Lib.strCells]
        rw [e1, hrs] at hrun
        rw [hsv]
        exact hrun
      | some ad =>
        have hsv : s.val = .slice (some ad) 0 0 := by unfold Sv.val; rw [hsa, hl, hc]; rfl
        have hrun := Lib.run_append_grow_string (P := P) w t t' ts e i (.int .u8 0) hu hs hi hz ad 0 0 [] (by simp) (fun j v hj => by simp at hj) ⟨⟨r⟩⟩ (by rw [hrs]; omega) (by rw [hrs]; omega) (by rw [hrs, hby]; exact growslice_fits (by omega) (by omega))
        rw [hrs] at hrun
        rw [hsv]
        simpa [Sv.val] using hrun
    · have hsv : s.val = .slice (some ⟨g, 0, none⟩) s.l.length s.c := by unfold Sv.val; rw [ha]
      have hwg : w.heap[g]? = some (.cells cur e (0, 0)) := k _ _ hg
      rw [hd, Nat.mul_one] at hcs ht
      by_cases hroom : s.l.length + r.length ≤ s.c
      · have hrun := Lib.run_append_room_string (P := P) w t t' ts e i hu hs hi hsz g s.l.length s.c cur hwg ⟨⟨r⟩⟩ (by rw [hrs]; exact hroom) (by rw [hrs]; omega)
        rw [hrs] at hrun
        refine ⟨⟨some ⟨g, 0, none⟩, s.c, s.l ++ r⟩, w.setRow g (cur.toList.take s.l.length ++ Lib.strCells ⟨⟨r⟩⟩ ++ cur.toList.drop (s.l.length + r.length)).toArray, ?_, rfl, fun _ q => by simp only at q; omega, ?_⟩
        · rw [hsv]; simpa [Sv.val] using hrun
        · refine St.turn (A := Sv.own _ e) (b := g) hg hoff trivial l ⟨by simpa using hroom, hcm, .inr ⟨g, _, rfl, Hp.one_self _ _, ?_, ?_⟩⟩ (by simp [World.setRow]) (setRow_heap w g cur _ e _ hwg) (fun j hj => setRow_other w g j _ hj) rfl rfl rfl
          · simp only [List.size_toArray, List.length_append, List.length_take, List.length_drop, Array.length_toList, Lib.strCells_length, hd]
            rw [hrs]
            omega
          · rw [ht, ← enc_str]
            have e1 : (s.l ++ r).length * Dat.sz UInt8 = ((s.l.flatMap Dat.enc) ++ (r.flatMap Dat.enc)).length := by rw [List.length_append, List.length_append, enc_len, enc_len, Nat.add_mul]
            simp only [e1]
            rw [List.take_left]
            simp
      · have holds : ∀ j v, (s.l.flatMap Dat.enc)[j]? = some v → w.cell? ((⟨g, 0, none⟩ : Addr).add j) = some v := fun j v hj => by
          rw [add_none]
          have hb' : s.b = g := by simp [Sv.b, ha]
          have ho' : s.o = 0 := by simp [Sv.o, ha]
          have hown : s.own e z := ⟨hlc, hcm, .inr ⟨g, cur, ha, hg, by rw [hd, Nat.mul_one]; exact hcs, by rw [hd, Nat.mul_one]; exact ht⟩⟩
          have := at_all (h := z) (b := s.b) (o := s.o) (fun i x hx => Sv.own_get hown hx) (by decide) j v hj
          rw [hb', ho'] at this
          exact cell_of_le k this
        have hrun := Lib.run_append_grow_string (P := P) w t t' ts e i (.int .u8 0) hu hs hi hz ⟨g, 0, none⟩ s.l.length s.c (s.l.flatMap Dat.enc) (by rw [enc_len, hsz]; rfl) holds ⟨⟨r⟩⟩ (by rw [hrs]; omega) (by rw [hrs]; omega) (by rw [hrs, hby]; exact growslice_fits (by omega) (by omega))
        rw [hrs] at hrun
        refine ⟨⟨some ⟨w.heap.size, 0, none⟩, grownCap w (s.l.length + r.length) s.c e, s.l ++ r⟩, _, ?_, rfl, fun _ q => by have := (hcap s.c).1; simp only at q; omega, hgrown s.c⟩
        rw [hsv]
        simpa [Sv.val] using hrun
theorem VL.appS {s : Sv UInt8} {r : Str} {xs : List Operand} (hu : P.underlying t = some (.slice e)) (hs : P.underlying t' = some .string) (hi : ((P.info? e).map fun i => (i.size, i.bytes, i.zero)) = some (1, 1, some (.int .u8 0)))
    (ha : ρ.evs xs = some [s.val, str r]) (hE : Foc E (s.own e) F) (hlen : s.l.length + r.length ≤ 4294967296) (hd : d < N)
    (k : ∀ s' : Sv UInt8, s'.l = s.l ++ r → ((s.c = 0 → s.a = none) → s'.c = 0 → s'.a = none) → VL P N c ops Q rest ((d, s'.val) :: ρ) M (Ow.star (s'.own e) F)) :
    VL P N c ops Q (⟨some d, .call { callee := .builtin .append, args := xs.toArray, argTypes := #[t, t'] }, ty, pos, after, none⟩ :: rest) ρ M E := by
  cases hj : P.info? e with
  | none => rw [hj] at hi; cases hi
  | some j =>
    rw [hj] at hi
    simp only [Option.map_some, Option.some.injEq, Prod.mk.injEq] at hi
    obtain ⟨h1, h2, h3⟩ := hi
    · refine VL.big (X := Sv UInt8) (φ := fun s' => s'.l = s.l ++ r ∧ ((s.c = 0 → s.a = none) → s'.c = 0 → s'.a = none)) (val := Sv.val) (M2 := fun _ => Mo.tt) (A2 := fun s' => s'.own e) hE (fun a w h z g hoff m hA l kk => ?_) hd fun s' hs' => VL.strip (k s' hs'.1 hs'.2)
      obtain ⟨s', w', q1, q2, q3, q4⟩ := run_appS (P := P) (ts := ty) hu hs hj h3 h1 h2 hoff l kk hA hlen
      refine ⟨s'.val, w', ?_, s', ⟨q2, q3⟩, rfl, q4⟩
      simp only [execOp, resolve, List.map_toArray, g.evs ha, Sem.run_bind, Sem.run_pure, Result.andThen_ok, invoke, builtin, q1]
theorem guard_ptr (op : BinOp) (a b : Option Addr) (w : World) : (eqGuard op t x y (.pointer a) (.pointer b)).run P w = .ok () w := by
  unfold eqGuard
  cases op <;> simp [go_sem] <;> rfl
theorem q_cvE (e1 : ρ.ev x = some v) (h : ∀ a w, Agr N ρ a → St c M E w → (convert t t' v).run P w = .ok u w) : Qt P N c ⟨od, .convert t t' x, ty, pos, after, gd⟩ u ρ M E := Qt.of_run fun a w g s => by
  simp only [execOp, g.ev e1, Sem.run_bind, h a w g s, Result.andThen_ok, Sem.run_pure]
theorem q_ext {xs : List Operand} {ts : Array TypeId} {f : FuncId} {vs : List Value} (ha : ρ.evs xs = some vs) (h : ∀ w, (callFunc f vs.toArray).run P w = .ok (.value v) w) : Qt P N c ⟨od, .call { callee := .value (.func f), args := xs.toArray, argTypes := ts }, ty, pos, after, gd⟩ v ρ M E := Qt.of_run fun a w g s => by
  have e := g.evs ha
  subst e
  simp [execOp, resolve, Act.eval, Deferred.ofValue, invoke, h]
theorem q_sdata {s : Sv UInt8} {xs : List Operand} {ts : Array TypeId} (ha : ρ.evs xs = some [s.val]) (hc : s.c = 0 → s.a = none) : Qt P N c ⟨od, .call { callee := .builtin .unsafeSliceData, args := xs.toArray, argTypes := ts }, ty, pos, after, gd⟩ (.pointer s.a) ρ M E := Qt.of_run fun a w g _ => by
  have h : (Builtin.unsafeSliceData_ ts ty #[s.val]).run P w = .ok (.pointer s.a) w := by
    unfold Sv.val
    cases ha : s.a with
    | none => rfl
    | some q =>
      obtain ⟨k, hk⟩ : ∃ k, s.c = k + 1 := ⟨s.c - 1, by
        have : s.c ≠ 0 := fun e => by have := hc e; rw [ha] at this; cases this
        omega⟩
      rw [hk]; rfl
  simp only [execOp, resolve, List.map_toArray, g.evs ha, Sem.run_bind, Sem.run_pure, Result.andThen_ok, invoke, builtin, h]
/-- the bytes of a slice of one's own as a text: they are not turned any more -/
theorem VL.ustr {s : Sv UInt8} {xs : List Operand} {pt it : TypeId} (ha : ρ.evs xs = some [.pointer s.a, i64 s.l.length]) (hE : Foc E (s.own e) F) (hd : d < N)
    (H : ∀ w (h z : Hp), h.off z → h.le (wh w) → z.le (wh w) → s.own e z → ∃ w', (Builtin.unsafeString_ #[pt, it] ty #[.pointer s.a, i64 s.l.length]).run P w = .ok (str s.l) w' ∧ St ⟨w, h, fun b => z b ≠ none⟩ Mo.tt Ow.emp w')
    (k : VL P N c ops Q rest ((d, str s.l) :: ρ) M F) : VL P N c ops Q (⟨some d, .call { callee := .builtin .unsafeString, args := xs.toArray, argTypes := #[pt, it] }, ty, pos, after, none⟩ :: rest) ρ M E := by
  refine VL.big (X := Unit) (φ := fun _ => True) (val := fun _ => str s.l) (M2 := fun _ => Mo.tt) (A2 := fun _ => Ow.emp) hE (fun a w h z g hoff m hA l kk => ?_) hd fun _ _ => VL.strip (VL.drop Foc.head k)
  obtain ⟨w', q1, q2⟩ := H w h z hoff l kk hA
  refine ⟨str s.l, w', ?_, (), trivial, rfl, q2⟩
  simp only [execOp, resolve, List.map_toArray, g.evs ha, Sem.run_bind, Sem.run_pure, Result.andThen_ok, invoke, builtin, q1]
/-- a builder of one's own -/
def Bd (T e : TypeId) (b : Nat) (l : Str) : Ow := fun z => ∃ (p : Value) (s : Sv UInt8), (p = .pointer none ∨ p = ptr b 0) ∧ s.l = l ∧ (s.c = 0 → s.a = none) ∧ Ow.star (Blk b [p, s.val] T) (s.own e) z
theorem Bd.mk {T e : TypeId} {b : Nat} {l : Str} {p : Value} {s : Sv UInt8} (h1 : p = .pointer none ∨ p = ptr b 0) (h2 : s.l = l) (h3 : s.c = 0 → s.a = none) {z : Hp} (h : Ow.star (Blk b [p, s.val] T) (s.own e) z) : Bd T e b l z := ⟨p, s, h1, h2, h3, h⟩
/-- what own blocks hold, opened at a contract's head -/
theorem Ct.exE {P : Program} {f : FuncId} {args : List Value} {M : Mo} {S X : Type} {φ0 : S → Prop} {E0 : S → Ow} {val : X → Value} {φ : X → Prop} {M2 : X → Mo} {E2 : X → Ow} (he : ∀ (xs : Array Value) (w : World), (callFunc f xs).run P w = .ok (.enter f xs) w)
    (h : ∀ s, φ0 s → Ct P f args M (E0 s) val φ M2 E2) : Ct P f args M (fun z => ∃ s, φ0 s ∧ E0 s z) val φ M2 E2 := ⟨he, fun w hp e m ⟨s, q, ee⟩ => (h s q).calls w hp e m ee⟩
theorem Ct.monoE {P : Program} {f : FuncId} {args : List Value} {M : Mo} {X : Type} {E0 E1 : Ow} {val : X → Value} {φ : X → Prop} {M2 : X → Mo} {E2 : X → Ow} (h : Ct P f args M E1 val φ M2 E2) (hE : ∀ z, E0 z → E1 z) : Ct P f args M E0 val φ M2 E2 := ⟨h.entry, fun w hp e m ee => h.calls w hp e m (hE e ee)⟩
/-- a call of a function value with what it has caught -/
theorem run_callV {xs : List Operand} {a : Act} {w : World} {ts : Array TypeId} {f : FuncId} {vs caps : List Value} (hf : ∀ (xs : Array Value) (w : World), (callFunc f xs).run P w = .ok (.enter f xs) w) (hx : a.eval x = .func (.func f) #[] caps.toArray) (ha : xs.map a.eval = vs) :
    (execOp a.eval ⟨od, .call { callee := .value x, args := xs.toArray, argTypes := ts }, ty, pos, after, gd⟩).run P w = .ok (.enter f (vs ++ caps).toArray) w := by
  subst ha
  simp [execOp, resolve, hx, Deferred.ofValue, invoke, hf]
theorem q_callVC {φ : X → Prop} {val : X → Value} {M2 : X → Mo} {E2 : X → Ow} {xs : List Operand} {ts : Array TypeId} {f : FuncId} {vs caps : List Value} (h : Ct P f (vs ++ caps) M1 Ow.emp val φ M2 E2) (hx : ρ.ev x = some (.func (.func f) #[] caps.toArray)) (ha : ρ.evs xs = some vs) [i : InR M E M1] (hv : ∀ y, φ y → val y = v) :
    Qt P N c ⟨od, .call { callee := .value x, args := xs.toArray, argTypes := ts }, ty, pos, after, gd⟩ v ρ M E := fun a w g s => by
  unfold Oper.quietAt
  rw [run_callV h.entry (g.ev hx) (g.evs ha)]
  exact ⟨rfl, h.gr i.out s hv⟩
theorem VL.callOV {φ : X → Prop} {val : X → Value} {M2 : X → Mo} {E2 : X → Ow} {xs : List Operand} {ts : Array TypeId} {f : FuncId} {vs caps : List Value} (h : Ct P f (vs ++ caps) M1 E1 val φ M2 E2) (hx : ρ.ev x = some (.func (.func f) #[] caps.toArray)) (ha : ρ.evs xs = some vs) [i : InM M M1] [j : Fo E E1 F] (hd : d < N)
    (k : ∀ x, φ x → VL P N c ops Q rest ((d, val x) :: ρ) ((M2 x).and M) (Ow.star (E2 x) F)) :
    VL P N c ops Q (⟨some d, .call { callee := .value x, args := xs.toArray, argTypes := ts }, ty, pos, after, none⟩ :: rest) ρ M E := fun a w g s =>
  wpList_plain rfl fun K hK => by
    unfold Oper.wp
    rw [run_callV h.entry (g.ev hx) (g.evs ha)]
    simp only [Oper.upon]
    exact (h.at i.out j.out s).mono fun en w' ⟨r, e1, z, e2, e3, e4⟩ => by subst e1; subst e2; exact hK _ _ (k z e3 _ _ (g.put hd _) e4)
theorem VL.callFV {φ : X → Prop} {val : X → Value} {M2 : X → Mo} {xs : List Operand} {ts : Array TypeId} {f : FuncId} {vs caps : List Value} (h : Ct P f (vs ++ caps) M1 Ow.emp val φ M2 (fun _ => Ow.emp)) (hx : ρ.ev x = some (.func (.func f) #[] caps.toArray)) (ha : ρ.evs xs = some vs) [i : InM M M1] (hd : d < N)
    (k : ∀ x, φ x → VL P N c ops Q rest ((d, val x) :: ρ) ((M2 x).and M) E) :
    VL P N c ops Q (⟨some d, .call { callee := .value x, args := xs.toArray, argTypes := ts }, ty, pos, after, none⟩ :: rest) ρ M E :=
  VL.callOV h hx ha hd fun x hx => VL.drop Foc.head (k x hx)
/-- a call that reads own blocks, and hands back new ones of one's own -/
theorem Ct.atR {P : Program} {f : FuncId} {args : List Value} {val : X → Value} {φ : X → Prop} {E2 : X → Ow} (h : Ct P f args M1 Ow.emp val φ (fun _ => Mo.tt) E2) (hM : ∀ h e, h.off e → M.on h → E e → M1.on (h.join e)) {w : World} (s : St c M E w) :
    Calls P f args.toArray w fun en w' => ∃ r, en = .returned r ∧ ∃ x, r = val x ∧ φ x ∧ St c M (Ow.star (E2 x) E) w' := by
  have s0 := s
  obtain ⟨⟨hp, e, m, ee, d, l, k, h0, hr, er⟩, fr, os, tp, out, sz⟩ := s
  refine (h.calls w (hp.join e) Hp.nil (hM _ _ d m ee) trivial (Hp.nil_off _) (Hp.join_le l k) (fun b o q => by cases q)).mono fun en w' ⟨r, e1, z, e2, e3, e4⟩ => ⟨r, e1, z, e2, e3, ?_⟩
  obtain ⟨⟨h', e', _, ee', d', l', k', hh, hn, en'⟩, fr', os', tp', out', sz'⟩ := e4
  simp only at fr' os' tp' out' sz' hh hn en'
  have old : ∀ b o, hp.join e b = some o → b < w.heap.size := fun b o q => (Array.getElem?_eq_some_iff.1 (Hp.join_le l k b o q)).1
  have keep : ∀ b o, hp.join e b = some o → wh w' b = some o := fun b o q => by
    unfold wh
    rw [fr' b (old b o q) (by simp [Hp.nil])]
    exact Hp.join_le l k b o q
  have new : ∀ b, e' b ≠ none → w.heap.size ≤ b := fun b q => (en' b q).elim (fun x => absurd rfl x) id
  have eoff : e'.off e := fun b => by
    cases he : e b with
    | none => exact .inr rfl
    | some o =>
      left
      cases he' : e' b with
      | none => rfl
      | some o' =>
        have := new b (by rw [he']; simp)
        have h2 : hp.join e b = some o := Hp.le_join_right d b o he
        have := old b o h2
        omega
  refine ⟨⟨hp, e'.join e, m, ⟨e', e, eoff, rfl, ee', ee⟩, fun b => ?_, fun b o q => keep b o (Hp.le_join_left hp e b o q), Hp.join_le k' (fun b o q => keep b o (Hp.le_join_right d b o q)), h0, hr, fun b hb => ?_⟩, fun b hb hd => ?_, os'.trans os, tp'.trans tp, out'.trans out, Nat.le_trans sz sz'⟩
  · cases hb : hp b with
    | none => exact .inl rfl
    | some o =>
      right
      refine Hp.join_none.2 ⟨?_, ?_⟩
      · cases he' : e' b with
        | none => rfl
        | some o' =>
          have := new b (by rw [he']; simp)
          have := old b o (Hp.le_join_left hp e b o hb)
          omega
      · rcases d b with q | q
        · rw [hb] at q; cases q
        · exact q
  · by_cases he : e' b = none
    · exact er b fun q => hb (Hp.join_none.2 ⟨he, q⟩)
    · exact .inr (Nat.le_trans sz (new b he))
  · rw [fr' b (Nat.lt_of_lt_of_le hb sz) (by simp [Hp.nil])]
    exact fr b hb hd
theorem VL.callOR {φ : X → Prop} {val : X → Value} {E2 : X → Ow} {xs : List Operand} {ts : Array TypeId} {f : FuncId} {args : List Value} (h : Ct P f args M1 Ow.emp val φ (fun _ => Mo.tt) E2) (ha : ρ.evs xs = some args) [i : InR M E M1] (hd : d < N)
    (k : ∀ x, φ x → VL P N c ops Q rest ((d, val x) :: ρ) M (Ow.star (E2 x) E)) :
    VL P N c ops Q (⟨some d, .call { callee := .value (.func f), args := xs.toArray, argTypes := ts }, ty, pos, after, none⟩ :: rest) ρ M E := fun a w g s =>
  wpList_plain rfl fun K hK => by
    unfold Oper.wp
    rw [run_call h.entry (g.evs ha)]
    simp only [Oper.upon]
    exact (h.atR i.out s).mono fun en w' ⟨r, e1, z, e2, e3, e4⟩ => by subst e1; subst e2; exact hK _ _ (k z e3 _ _ (g.put hd _) e4)
theorem VL.toBd {Tb : TypeId} (e : TypeId) (b : Nat) [j : UpdB E b [.pointer none, .slice none 0 0] Tb F] (k : VL P N c ops Q rest ρ M (Ow.star (Bd Tb e b []) F)) : VL P N c ops Q rest ρ M E :=
  VL.mono (fun _ x => x) (fun z hz => by
    obtain ⟨x, y, d, q, hx, hy⟩ := j.out z hz
    exact ⟨x, y, d, q, ⟨.pointer none, ⟨none, 0, []⟩, .inl rfl, rfl, fun _ => rfl, x, Hp.nil, fun _ => .inr rfl, (Hp.join_nil x).symm, hx, Nat.le_refl _, by unfold maxLen; simp, .inl ⟨rfl, rfl⟩⟩, hy⟩) k
end
end Go.V
end

section
namespace Go.V
open Go.RowKit
section
variable {P : Program} {N : Nat} {c : Cx} {ops : Array Oper} {Q Q1 : Exit → Act → World → Prop} {rest : List Oper} {o : Oper} {ρ : Env} {M M' M1 M0 : Mo} {E E1 F A : Ow} {v u : Value} {X S T R : Type}
  {d : Nat} {od : Option Nat} {ty : TypeId} {pos : String} {after : Array Edge} {gd : Option (Nat × Bool)} {x y : Operand} {t t' e tb : TypeId} {f : FuncId} {args : List Value}
theorem q_peqn {te : TypeId} {a : Option Addr} (ht : P.underlying t = some (.pointer te)) (e1 : ρ.ev x = some (.pointer a)) : Qt P N c ⟨od, .binOp .eql t x (.const (.pointer none)) t', ty, pos, after, gd⟩ (.bool a.isNone) ρ M E :=
  q_bin e1 rfl (guard_ptr _ _ _) fun w => run_eql_pointer_nil (P := P) w t a (by rw [ht]; simp [Program.pointee, ht])
theorem q_pne {te : TypeId} {j : Nat} {a : Addr} (ht : P.underlying t = some (.pointer te)) (hi : (P.info? te).map (·.size) = some j) (e1 : ρ.ev x = some (.pointer (some a))) (e2 : ρ.ev y = some (.pointer (some a))) : Qt P N c ⟨od, .binOp .neq t x y t', ty, pos, after, gd⟩ (.bool false) ρ M E := by
  cases hj : P.info? te with
  | none => rw [hj] at hi; cases hi
  | some i => exact q_bin e1 e2 (guard_ptr _ _ _) fun w => Lib.run_neq_ptr_same (P := P) w a ht hj
theorem shape_of {b : Nat} {cs : List Value} {T : TypeId} [i : HasB E b cs T] {w : World} (s : St c M E w) : w.shape? b = some (T, cs.length) := by
  obtain ⟨⟨hp, e, m, ee, dd, l, k, _⟩, _⟩ := s
  have h := k _ _ (i.out e ee)
  simp only [wh] at h
  simp [World.shape?, h]
theorem q_tou {te T : TypeId} {n b : Nat} {cs : List Value} (hs : P.underlying t = some (.pointer te)) (hd : P.underlying t' = some .unsafePointer) (ht : (P.info? te).map (·.size) = some (n + 1)) (e1 : ρ.ev x = some (ptr b 0)) [i : HasB E b cs T] (hl : 0 < cs.length) : Qt P N c ⟨od, .convert t t' x, ty, pos, after, gd⟩ (ptr b 0) ρ M E := by
  cases hj : P.info? te with
  | none => rw [hj] at ht; cases ht
  | some j =>
    rw [hj] at ht
    have hz : j.size ≠ 0 := by
      have : j.size = n + 1 := by simpa using ht
      omega
    exact q_cvE e1 fun a w _ s => Lib.run_to_unsafe w ⟨b, 0, none⟩ hs hd hj hz (shape_of (i := i) s) hl
theorem q_fromu {te T : TypeId} {n b : Nat} {cs : List Value} (hs : P.underlying t = some .unsafePointer) (hd : P.underlying t' = some (.pointer te)) (ht : (P.info? te).map (·.size) = some n) (e1 : ρ.ev x = some (ptr b 0)) [i : HasB E b cs T] (hl : liesAt P P.depth T (cs.length / P.cellsOf T) 0 te 1 = true) : Qt P N c ⟨od, .convert t t' x, ty, pos, after, gd⟩ (ptr b 0) ρ M E := by
  cases hj : P.info? te with
  | none => rw [hj] at ht; cases ht
  | some j => exact q_cvE e1 fun a w _ s => Lib.run_from_unsafe w ⟨b, 0, none⟩ hs hd hj (shape_of (i := i) s) hl
theorem q_noEscape {fn : Func} {xs : List Operand} {ts : Array TypeId} (hf : P.funcs[f]? = some fn) (hname : (fn.name == "runtime.NumGoroutine") = false) (hb : fn.body.isNone = true) (hn : Extern.findNext fn = none) (he : Extern.find fn = some Extern.AbiNoEscape.same) (ha : ρ.evs xs = some [v]) :
    Qt P N c ⟨od, .call { callee := .value (.func f), args := xs.toArray, argTypes := ts }, ty, pos, after, gd⟩ v ρ M E := q_ext ha fun w => by
  rw [run_callFunc_extern hf hname hb hn he, Lib.run_noEscape]; rfl
theorem St.ustr {w : World} {h z : Hp} {s : Sv UInt8} {pt it e : TypeId} (hp : P.underlying pt = some (.pointer e)) (hc : P.cellsOf e = 1) (hoff : h.off z) (l : h.le (wh w)) (k : z.le (wh w)) (ho : s.own e z) :
    ∃ w', (Builtin.unsafeString_ #[pt, it] ty #[.pointer s.a, i64 s.l.length]).run P w = .ok (str s.l) w' ∧ St ⟨w, h, fun b => z b ≠ none⟩ Mo.tt Ow.emp w' := by
  by_cases h0 : s.l = []
  · refine ⟨w, ?_, ⟨⟨h, Hp.nil, trivial, trivial, Hp.nil_off _, l, (fun b p hb => by cases hb), Hp.le.refl h, (fun b hb => .inl hb), (fun b hb => absurd rfl hb)⟩, fun b _ _ => rfl, rfl, rfl, rfl, Nat.le_refl _⟩⟩
    rw [h0]
    exact Lib.run_unsafeString_none w pt it ty s.a
  · have ho' := ho
    obtain ⟨hlc, hcm, ⟨hl, _⟩ | ⟨g, cur, ha, hg, hcs, ht⟩⟩ := ho
    · exact absurd hl h0
    · have hwg : w.heap[g]? = some (.cells cur e (0, 0)) := k _ _ hg
      have hd : Dat.sz UInt8 = 1 := rfl
      rw [hd, Nat.mul_one] at hcs
      have hcell : ∀ j x, s.l[j]? = some x → w.cell? ((⟨g, 0, none⟩ : Addr).add j) = some (.int .u8 x.toNat) := fun j x hx => by
        have := Sv.own_get ho' hx 0 (.int .u8 x.toNat) rfl
        have hb : s.b = g := by simp [Sv.b, ha]
        have ho2 : s.o = 0 := by simp [Sv.o, ha]
        rw [hb, ho2, hd] at this
        rw [add_none]
        exact cell_of_le k (by simpa using this)
      have hr := Lib.run_unsafeString_row (P := P) w pt it ty e hp hc g cur.size (by simp [World.shape?, hwg]) s.l h0 (by omega) (by unfold maxLen at hcm; omega) hcell
      rw [ha]
      refine ⟨w.freeze ⟨g, 0, none⟩ s.l.length, hr, ?_⟩
      have hfz : (w.freeze ⟨g, 0, none⟩ s.l.length).heap.size = w.heap.size ∧ (∀ i, i ≠ g → (w.freeze ⟨g, 0, none⟩ s.l.length).heap[i]? = w.heap[i]?) ∧ (w.freeze ⟨g, 0, none⟩ s.l.length).os = w.os ∧ (w.freeze ⟨g, 0, none⟩ s.l.length).tape = w.tape ∧ (w.freeze ⟨g, 0, none⟩ s.l.length).output = w.output := by
        unfold World.freeze
        split
        · exact ⟨rfl, fun _ _ => rfl, rfl, rfl, rfl⟩
        · refine ⟨by simp, fun i hi => ?_, rfl, rfl, rfl⟩
          simp only [Array.getElem?_modify]
          rw [if_neg (by simpa using Ne.symm hi)]
      obtain ⟨f1, f2, f3, f4, f5⟩ := hfz
      have hne : ∀ i p, h i = some p → i ≠ g := fun i p hi q => by
        subst q
        rcases hoff i with q | q
        · rw [q] at hi; cases hi
        · rw [q] at hg; cases hg
      refine ⟨⟨h, Hp.nil, trivial, trivial, Hp.nil_off _, fun i p hi => ?_, (fun b p hb => by cases hb), Hp.le.refl h, (fun b hb => .inl hb), (fun b hb => absurd rfl hb)⟩, fun i hi hn => ?_, f3, f4, f5, by rw [f1]; exact Nat.le_refl _⟩
      · unfold wh
        rw [f2 i (hne i p hi)]
        exact l i p hi
      · exact f2 i fun q => hn (by show z i ≠ none; rw [q, hg]; simp)
end
end Go.V
end

section
namespace Go.V
open Go.RowKit
section
variable {P : Program} {N : Nat} {c : Cx} {ops : Array Oper} {Q Q1 : Exit → Act → World → Prop} {rest : List Oper} {o : Oper} {ρ : Env} {M M' M1 M0 : Mo} {E E1 F A : Ow} {v u : Value} {X S T R : Type}
  {d : Nat} {od : Option Nat} {ty : TypeId} {pos : String} {after : Array Edge} {gd : Option (Nat × Bool)} {x y : Operand} {t t' e tb : TypeId} {f : FuncId} {args : List Value} {k k' : IntKind} {m n : Int}
theorem q_rem (e1 : ρ.ev x = some (.int k m)) (e2 : ρ.ev y = some (.int k n)) (h : 0 ≤ m ∧ n ≠ 0) : Qt P N c ⟨od, .binOp .rem t x y t', ty, pos, after, gd⟩ (.int k (m % n)) ρ M E := q_bin e1 e2 (guard_int _ _ _) fun w => by
  have e : m.tmod n = m % n := Int.tmod_eq_emod_of_nonneg h.1
  simp [binOp, Op.intDiv, go_sem, h.2, e]
theorem q_quo (e1 : ρ.ev x = some (.int k m)) (e2 : ρ.ev y = some (.int k n)) (h : 0 ≤ m ∧ n ≠ 0) (hk : k.wrap (m / n) = m / n) : Qt P N c ⟨od, .binOp .quo t x y t', ty, pos, after, gd⟩ (.int k (m / n)) ρ M E := q_bin e1 e2 (guard_int _ _ _) fun w => by
  have e : m.tdiv n = m / n := Int.tdiv_eq_ediv_of_nonneg h.1
  simp [binOp, Op.intDiv, go_sem, h.2, e, hk]
theorem q_addW (e1 : ρ.ev x = some (.int k m)) (e2 : ρ.ev y = some (.int k n)) {z : Int} (hk : k.wrap (m + n) = z) : Qt P N c ⟨od, .binOp .add t x y t', ty, pos, after, gd⟩ (.int k z) ρ M E := q_bin e1 e2 (guard_int _ _ _) fun w => by
  simp [binOp, Op.intArith, go_sem, hk]
theorem q_subW (e1 : ρ.ev x = some (.int k m)) (e2 : ρ.ev y = some (.int k n)) {z : Int} (hk : k.wrap (m - n) = z) : Qt P N c ⟨od, .binOp .sub t x y t', ty, pos, after, gd⟩ (.int k z) ρ M E := q_bin e1 e2 (guard_int _ _ _) fun w => by
  simp [binOp, Op.intArith, go_sem, hk]
theorem q_mulW (e1 : ρ.ev x = some (.int k m)) (e2 : ρ.ev y = some (.int k n)) {z : Int} (hk : k.wrap (m * n) = z) : Qt P N c ⟨od, .binOp .mul t x y t', ty, pos, after, gd⟩ (.int k z) ρ M E := q_bin e1 e2 (guard_int _ _ _) fun w => by
  simp [binOp, Op.intArith, go_sem, hk]
theorem run_b2s {w : World} {s : Sv UInt8} (hs : P.underlying t = some (.slice e)) (he : P.underlying e = some (.int .u8)) (hd : P.underlying t' = some .string) (ha : s.l ≠ [] → s.a = some ⟨s.b, s.o, none⟩) (hc : ∀ i x, s.l[i]? = some x → w.cell? ⟨s.b, s.o + i, none⟩ = some (.int .u8 x.toNat)) :
    (convert t t' s.val).run P w = .ok (str s.l) w := by
  unfold Sv.val
  rw [run_convert_bytes_string w t t' e s.a s.l.length s.c hs he hd]
  by_cases hl : s.l = []
  · rw [hl]
    cases hq : s.a with
    | none => simp [Conv.bytesToString]; rfl
    | some a => rw [run_bytesToString w a _ s.c [] (by simp [loadCells, loadCellsFrom, go_sem])]; rfl
  · rw [ha hl]
    have hld : (loadCells ⟨s.b, s.o, none⟩ s.l.length).run P w = .ok ((s.l.map fun b => (b.toNat : Int)).map (Value.int .u8)).toArray w := by
      have := run_loadCells_list (P := P) w ⟨s.b, s.o, none⟩ ((s.l.map fun b => (b.toNat : Int)).map (Value.int .u8)) (fun j v hj => by
        rw [add_none]
        rw [List.getElem?_map, List.getElem?_map] at hj
        cases hz : s.l[j]? with
        | none => rw [hz] at hj; cases hj
        | some z => rw [hz] at hj; cases hj; exact hc j z hz)
      simpa using this
    rw [run_bytesToString w _ _ s.c _ hld, foldl_push_byteCells]
    congr 2
    exact ByteArray.ext (by simp)
theorem cell_of_st {s : Sv UInt8} (hs : ∀ h e, h.off e → M.on h → E e → s.ok.on (h.join e)) {w : World} (st : St c M E w) : (s.l ≠ [] → s.a = some ⟨s.b, s.o, none⟩) ∧ ∀ (i : Nat) x, s.l[i]? = some x → w.cell? ⟨s.b, s.o + i, none⟩ = some (.int .u8 x.toNat) := by
  obtain ⟨⟨hp, ee, m, eE, dd, l, k, _⟩, _⟩ := st
  have q := hs hp ee dd m eE
  refine ⟨q.2.2.1, fun i x hx => ?_⟩
  have := Sv.ok_get q hx 0 (.int .u8 x.toNat) rfl
  have hsz : Dat.sz UInt8 = 1 := rfl
  rw [hsz] at this
  exact cell_of_le (Hp.join_le l k) (by simpa using this)
/-- bytes as a text -/
theorem q_b2s {s : Sv UInt8} (hs : P.underlying t = some (.slice e)) (he : P.underlying e = some (.int .u8)) (hd : P.underlying t' = some .string) (e1 : ρ.ev x = some s.val) [i : InR M E s.ok] : Qt P N c ⟨od, .convert t t' x, ty, pos, after, gd⟩ (str s.l) ρ M E :=
  q_cvE e1 fun a w _ st => by
    obtain ⟨h1, h2⟩ := cell_of_st i.out st
    exact run_b2s hs he hd h1 h2
end
end Go.V
end

section
namespace Go.V
open Go.RowKit
open Go.S hiding Str
instance : ErNo := ⟨99, 98⟩
end Go.V
end
