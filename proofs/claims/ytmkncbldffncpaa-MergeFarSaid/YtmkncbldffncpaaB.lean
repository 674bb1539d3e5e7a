/- Part of the proofs of: Whatever texts a base and two heirs are, the merge keeps one side's edits, its parts, its marks and its turning: MergeSides, MergeParts, MergeMarked and MergeTurned answer true at every input. No condition. -/
import Derived.Shelf.Strings.Builder1
import Derived.Shelf.Strings.Builder2
import Derived.Shelf.Strings.OnBuilder
import Derived.Shelf.Strings.BuilderF
import Derived.Shelf.Strings.BuilderK
import Derived.Shelf.Strings.Builder2Cap
import Derived.Shelf.Strings.Search1
import Derived.Shelf.Strings.Search2
import Derived.Shelf.Strings.Search3
import Derived.Shelf.LaysM
import Derived.Shelf.Strings.Shaped
import Derived.Shelf.Bits.Mul64
import Derived.Shelf.Strings.BuilderCap
import Derived.Ground.Names2Prog
import Derived.Shelf.Slices.Clone
import Derived.Ground.SlgnProg
import Derived.Shelf.SlicesE.Clone
import Derived.Test.YtmkncbldffncpaaProg
import Derived.Lib.Bytealg
import Derived.Test.YtmkncbldffncpaaA
set_option linter.unusedVariables false
set_option linter.unusedSimpArgs false
set_option linter.unusedSectionVars false
section
namespace Go.Proofs.Ytmkncbldffncpaa
open Go.RowKit Go.V
open Go.P hiding Str
theorem fa103_0 : FieldAt Try.prog 103 0 0 := fieldAt_sz (n := 0) (f := ⟨_, _, 0, _, _, _, _⟩) Try.underlying103 rfl (by kernel_rfl)
set_option maxRecDepth 100000 in
theorem step_ct (b0 : Nat) (a b : Sv Str) (n : Sv Int) (i j : Int) (hi0 : 0 ≤ i) (hi1 : i ≤ a.l.length) (hj0 : 0 ≤ j) (hj1 : j ≤ b.l.length) (ha : a.l.length ≤ 256) (hb : b.l.length ≤ 256) (hT : Tab a.l b.l n.l (fun _ _ => True)) :
    Ct Try.prog 55 [ptr b0 0, i64 i, i64 j] (((Cells b0 0 [a.val, b.val, n.val]).and n.ok).and (a.ok.and b.ok)) Ow.emp (X := Unit) (fun _ => i64 (stepv (a.l.drop i.toNat) (b.l.drop j.toNat))) (fun _ => True) (fun _ => Mo.tt) (fun _ => Ow.emp) := by
  refine Ct.of Try.func55 rfl (by kernel_rfl) Try.ntmps55 (by simp) fun c => ?_
  refine VC.seq ?_
  refine VC.region ?_
  refine VL.q (q_assign rfl) (by decide) ?_
  refine VL.to (fun _ _ h => h) ?_
  refine VC.seq ?_
  refine VC.block ?_
  refine VC.seq ?_
  refine VC.draw ((List.range 34).map fun k => (k, true)) mixed (by kernel_rfl) (by kernel_rfl) (by kernel_rfl) ?_
  refine VD.q rfl (q_move rfl) (by decide) ?_
  refine VD.q rfl (q_move rfl) (by decide) ?_
  refine VD.q rfl (q_nilCheck rfl) (by decide) ?_
  refine VD.q rfl (q_field fa103_0 rfl) (by decide) ?_
  refine VD.q rfl (q_fm one28 rfl rfl) (by decide) ?_
  refine VD.q rfl (q_ln (s := a) Try.underlying28 rfl) (by decide) ?_
  refine VD.q rfl (q_lss rfl rfl) (by decide) ?_
  refine VD.q rfl (q_move rfl) (by decide) ?_
  refine VD.split_dec 15 rfl (fun h15 => ?_) (fun h15 => ?_)
  · -- then of 15
    refine VD.gy rfl rfl rfl (q_move rfl) (by decide) ?_
    refine VD.gy rfl rfl rfl (q_move rfl) (by decide) ?_
    refine VD.gy rfl rfl rfl (q_nilCheck rfl) (by decide) ?_
    refine VD.gy rfl rfl rfl (q_field fa103_1 rfl) (by decide) ?_
    refine VD.gy rfl rfl rfl (q_fm one28 rfl rfl) (by decide) ?_
    refine VD.gy rfl rfl rfl (q_ln (s := b) Try.underlying28 rfl) (by decide) ?_
    refine VD.gy rfl rfl rfl (q_lss rfl rfl) (by decide) ?_
    refine VD.q rfl (q_pick_t rfl rfl) (by decide) ?_
    refine VD.q rfl (q_move rfl) (by decide) ?_
    refine VD.split_dec 24 rfl (fun h24 => ?_) (fun h24 => ?_)
    · -- then of 24
      refine VD.gy rfl rfl rfl (q_move rfl) (by decide) ?_
      refine VD.gy rfl rfl rfl (q_nilCheck rfl) (by decide) ?_
      refine VD.gy rfl rfl rfl (q_field fa103_0 rfl) (by decide) ?_
      refine VD.gy rfl rfl rfl (q_fm one28 rfl rfl) (by decide) ?_
      refine VD.gy rfl rfl rfl (q_move rfl) (by decide) ?_
      obtain ⟨z30, hz30⟩ : ∃ z, a.l[(i).toNat]? = some z := ⟨_, List.getElem?_eq_getElem (by omega)⟩
      refine VD.gy rfl rfl rfl (q_ixm (s := a) Try.underlying28 sz9 rfl rfl (by omega) (by omega)) (by decide) ?_
      refine VD.gy rfl rfl rfl (q_el (s := a) one9 rfl hz30 rfl) (by decide) ?_
      refine VD.gy rfl rfl rfl (q_move rfl) (by decide) ?_
      refine VD.gy rfl rfl rfl (q_nilCheck rfl) (by decide) ?_
      refine VD.gy rfl rfl rfl (q_field fa103_1 rfl) (by decide) ?_
      refine VD.gy rfl rfl rfl (q_fm one28 rfl rfl) (by decide) ?_
      refine VD.gy rfl rfl rfl (q_move rfl) (by decide) ?_
      obtain ⟨z37, hz37⟩ : ∃ z, b.l[(j).toNat]? = some z := ⟨_, List.getElem?_eq_getElem (by omega)⟩
      refine VD.gy rfl rfl rfl (q_ixm (s := b) Try.underlying28 sz9 rfl rfl (by omega) (by omega)) (by decide) ?_
      refine VD.gy rfl rfl rfl (q_el (s := b) one9 rfl hz37 rfl) (by decide) ?_
      refine VD.gy rfl rfl rfl (q_seq rfl rfl) (by decide) ?_
      refine VD.q rfl (q_pick_t rfl rfl) (by decide) ?_
      refine VD.q rfl (q_assign rfl) (by decide) ?_
      refine VD.to (fun _ _ h => h) ?_
      refine VC.cond_dec rfl (fun h7 => ?_) (fun h7 => ?_)
      · -- then of 7
        refine VC.seq ?_
        refine VC.region ?_
        refine VL.q (q_assign rfl) (by decide) ?_
        refine VL.to (fun _ _ h => h) ?_
        exact VC.ret (fin1I (.inr rfl) rfl rfl () (congrArg i64 (by first | exact stepv_a hi0 (by omega) | exact stepv_b hi0 (by omega) hj0 (by omega) | exact stepv_1 hz30 hz37 (by assumption) | exact stepv_2 hi0 hj0 hz30 hz37 (by assumption) (by assumption) | exact stepv_3 hi0 hj0 hz30 hz37 (by assumption) (by assumption))) (trivial) (fun _ _ => trivial))
      · -- else of 7
        refine VC.seq ?_
        refine VC.region ?_
        refine VL.q (q_move rfl) (by decide) ?_
        refine VL.q (q_move rfl) (by decide) ?_
        refine VL.q (q_nilCheck rfl) (by decide) ?_
        refine VL.q (q_field fa103_0 rfl) (by decide) ?_
        refine VL.q (q_fm one28 rfl rfl) (by decide) ?_
        refine VL.q (q_ln (s := a) Try.underlying28 rfl) (by decide) ?_
        refine VL.q (q_lss rfl rfl) (by decide) ?_
        refine VL.q (q_move rfl) (by decide) ?_
        refine VL.split_dec 49 rfl (fun h49 => ?_) (fun h49 => ?_)
        · -- then of 49
          refine VL.gy rfl rfl (q_move rfl) (by decide) ?_
          refine VL.gy rfl rfl (q_move rfl) (by decide) ?_
          refine VL.gy rfl rfl (q_nilCheck rfl) (by decide) ?_
          refine VL.gy rfl rfl (q_field fa103_1 rfl) (by decide) ?_
          refine VL.gy rfl rfl (q_fm one28 rfl rfl) (by decide) ?_
          refine VL.gy rfl rfl (q_ln (s := b) Try.underlying28 rfl) (by decide) ?_
          refine VL.gy rfl rfl (q_eql rfl rfl) (by decide) ?_
          refine VL.gy rfl rfl (q_move rfl) (by decide) ?_
          refine VL.split_dec 57 rfl (fun h57 => ?_) (fun h57 => ?_)
          · -- then of 57
            refine VL.gn rfl rfl rfl (by decide) ?_
            refine VL.gn rfl rfl rfl (by decide) ?_
            refine VL.gn rfl rfl rfl (by decide) ?_
            refine VL.gn rfl rfl rfl (by decide) ?_
            refine VL.gn rfl rfl rfl (by decide) ?_
            refine VL.gn rfl rfl rfl (by decide) ?_
            refine VL.gn rfl rfl rfl (by decide) ?_
            refine VL.gn rfl rfl rfl (by decide) ?_
            refine VL.gn rfl rfl rfl (by decide) ?_
            refine VL.gn rfl rfl rfl (by decide) ?_
            refine VL.gn rfl rfl rfl (by decide) ?_
            refine VL.gy rfl rfl (q_pick_t rfl rfl) (by decide) ?_
            refine VL.q (q_pick_t rfl rfl) (by decide) ?_
            refine VL.q (q_assign rfl) (by decide) ?_
            refine VL.to (fun _ _ h => h) ?_
            refine VC.cond_t rfl ?_
            refine VC.seq ?_
            refine VC.region ?_
            refine VL.q (q_assign rfl) (by decide) ?_
            refine VL.to (fun _ _ h => h) ?_
            exact VC.ret (fin1I (.inr rfl) rfl rfl () (congrArg i64 (by first | exact stepv_a hi0 (by omega) | exact stepv_b hi0 (by omega) hj0 (by omega) | exact stepv_1 hz30 hz37 (by assumption) | exact stepv_2 hi0 hj0 hz30 hz37 (by assumption) (by assumption) | exact stepv_3 hi0 hj0 hz30 hz37 (by assumption) (by assumption))) (trivial) (fun _ _ => trivial))
          · -- else of 57
            refine VL.gy rfl rfl (q_move rfl) (by decide) ?_
            refine VL.gy rfl rfl (q_move rfl) (by decide) ?_
            refine VL.gy rfl rfl (q_add rfl rfl ⟨by omega, by omega⟩) (by decide) ?_
            refine VL.gy rfl rfl (q_move rfl) (by decide) ?_
            refine VL.gy rfl rfl (q_call (at_ct b0 a b n (i + 1) j (lcs (a.l.drop (i + 1).toNat) (b.l.drop j.toNat) : Int) (by omega) (by omega) (by omega) (by omega) (by omega) (hT.2 _ _ (by omega) (by omega) (by trivial))) rfl (fun _ _ => rfl)) (by decide) ?_
            refine VL.gy rfl rfl (q_move rfl) (by decide) ?_
            refine VL.gy rfl rfl (q_move rfl) (by decide) ?_
            refine VL.gy rfl rfl (q_move rfl) (by decide) ?_
            refine VL.gy rfl rfl (q_add rfl rfl ⟨by omega, by omega⟩) (by decide) ?_
            refine VL.gy rfl rfl (q_call (at_ct b0 a b n i (j + 1) (lcs (a.l.drop i.toNat) (b.l.drop (j + 1).toNat) : Int) (by omega) (by omega) (by omega) (by omega) (by omega) (hT.2 _ _ (by omega) (by omega) (by trivial))) rfl (fun _ _ => rfl)) (by decide) ?_
            refine VL.gy rfl rfl (q_geq rfl rfl) (by decide) ?_
            refine VL.gy rfl rfl (q_pick_f rfl rfl) (by decide) ?_
            refine VL.q (q_pick_t rfl rfl) (by decide) ?_
            refine VL.q (q_assign rfl) (by decide) ?_
            refine VL.to (fun _ _ h => h) ?_
            refine VC.cond_dec rfl (fun h41 => ?_) (fun h41 => ?_)
            · -- then of 41
              refine VC.seq ?_
              refine VC.region ?_
              refine VL.q (q_assign rfl) (by decide) ?_
              refine VL.to (fun _ _ h => h) ?_
              exact VC.ret (fin1I (.inr rfl) rfl rfl () (congrArg i64 (by first | exact stepv_a hi0 (by omega) | exact stepv_b hi0 (by omega) hj0 (by omega) | exact stepv_1 hz30 hz37 (by assumption) | exact stepv_2 hi0 hj0 hz30 hz37 (by assumption) (by assumption) | exact stepv_3 hi0 hj0 hz30 hz37 (by assumption) (by assumption))) (trivial) (fun _ _ => trivial))
            · -- else of 41
              refine VC.skip_to (fun _ _ h => h) ?_
              refine VC.seq ?_
              refine VC.region ?_
              refine VL.q (q_assign rfl) (by decide) ?_
              refine VL.to (fun _ _ h => h) ?_
              exact VC.ret (fin1I (.inr rfl) rfl rfl () (congrArg i64 (by first | exact stepv_a hi0 (by omega) | exact stepv_b hi0 (by omega) hj0 (by omega) | exact stepv_1 hz30 hz37 (by assumption) | exact stepv_2 hi0 hj0 hz30 hz37 (by assumption) (by assumption) | exact stepv_3 hi0 hj0 hz30 hz37 (by assumption) (by assumption))) (trivial) (fun _ _ => trivial))
        · -- else of 49
          refine VL.gn rfl rfl rfl (by decide) ?_
          refine VL.gn rfl rfl rfl (by decide) ?_
          refine VL.gn rfl rfl rfl (by decide) ?_
          refine VL.gn rfl rfl rfl (by decide) ?_
          refine VL.gn rfl rfl rfl (by decide) ?_
          refine VL.gn rfl rfl rfl (by decide) ?_
          refine VL.gn rfl rfl rfl (by decide) ?_
          refine VL.gn rfl rfl rfl (by decide) ?_
          refine VL.gu rfl rfl (by decide) ?_
          refine VL.gu rfl rfl (by decide) ?_
          refine VL.gu rfl rfl (by decide) ?_
          refine VL.gu rfl rfl (by decide) ?_
          refine VL.gu rfl rfl (by decide) ?_
          refine VL.gu rfl rfl (by decide) ?_
          refine VL.gu rfl rfl (by decide) ?_
          refine VL.gu rfl rfl (by decide) ?_
          refine VL.gu rfl rfl (by decide) ?_
          refine VL.gu rfl rfl (by decide) ?_
          refine VL.gu rfl rfl (by decide) ?_
          refine VL.gn rfl rfl rfl (by decide) ?_
          refine VL.q (q_pick_f rfl rfl) (by decide) ?_
          refine VL.q (q_assign rfl) (by decide) ?_
          refine VL.to (fun _ _ h => h) ?_
          refine VC.cond_f rfl ?_
          refine VC.skip_to (fun _ _ h => h) ?_
          refine VC.seq ?_
          refine VC.region ?_
          refine VL.q (q_assign rfl) (by decide) ?_
          refine VL.to (fun _ _ h => h) ?_
          exact VC.ret (fin1I (.inr rfl) rfl rfl () (congrArg i64 (by first | exact stepv_a hi0 (by omega) | exact stepv_b hi0 (by omega) hj0 (by omega) | exact stepv_1 hz30 hz37 (by assumption) | exact stepv_2 hi0 hj0 hz30 hz37 (by assumption) (by assumption) | exact stepv_3 hi0 hj0 hz30 hz37 (by assumption) (by assumption))) (trivial) (fun _ _ => trivial))
    · -- else of 24
      refine VD.gn rfl rfl rfl rfl (by decide) ?_
      refine VD.gn rfl rfl rfl rfl (by decide) ?_
      refine VD.gn rfl rfl rfl rfl (by decide) ?_
      refine VD.gn rfl rfl rfl rfl (by decide) ?_
      refine VD.gn rfl rfl rfl rfl (by decide) ?_
      refine VD.gn rfl rfl rfl rfl (by decide) ?_
      refine VD.gn rfl rfl rfl rfl (by decide) ?_
      refine VD.gn rfl rfl rfl rfl (by decide) ?_
      refine VD.gn rfl rfl rfl rfl (by decide) ?_
      refine VD.gn rfl rfl rfl rfl (by decide) ?_
      refine VD.gn rfl rfl rfl rfl (by decide) ?_
      refine VD.gn rfl rfl rfl rfl (by decide) ?_
      refine VD.gn rfl rfl rfl rfl (by decide) ?_
      refine VD.gn rfl rfl rfl rfl (by decide) ?_
      refine VD.gn rfl rfl rfl rfl (by decide) ?_
      refine VD.q rfl (q_pick_f rfl rfl) (by decide) ?_
      refine VD.q rfl (q_assign rfl) (by decide) ?_
      refine VD.to (fun _ _ h => h) ?_
      refine VC.cond_f rfl ?_
      refine VC.seq ?_
      refine VC.region ?_
      refine VL.q (q_move rfl) (by decide) ?_
      refine VL.q (q_move rfl) (by decide) ?_
      refine VL.q (q_nilCheck rfl) (by decide) ?_
      refine VL.q (q_field fa103_0 rfl) (by decide) ?_
      refine VL.q (q_fm one28 rfl rfl) (by decide) ?_
      refine VL.q (q_ln (s := a) Try.underlying28 rfl) (by decide) ?_
      refine VL.q (q_lss rfl rfl) (by decide) ?_
      refine VL.q (q_move rfl) (by decide) ?_
      refine VL.split_dec 49 rfl (fun h49 => ?_) (fun h49 => ?_)
      · -- then of 49
        refine VL.gy rfl rfl (q_move rfl) (by decide) ?_
        refine VL.gy rfl rfl (q_move rfl) (by decide) ?_
        refine VL.gy rfl rfl (q_nilCheck rfl) (by decide) ?_
        refine VL.gy rfl rfl (q_field fa103_1 rfl) (by decide) ?_
        refine VL.gy rfl rfl (q_fm one28 rfl rfl) (by decide) ?_
        refine VL.gy rfl rfl (q_ln (s := b) Try.underlying28 rfl) (by decide) ?_
        refine VL.gy rfl rfl (q_eql rfl rfl) (by decide) ?_
        refine VL.gy rfl rfl (q_move rfl) (by decide) ?_
        refine VL.split_dec 57 rfl (fun h57 => ?_) (fun h57 => ?_)
        · -- then of 57
          refine VL.gn rfl rfl rfl (by decide) ?_
          refine VL.gn rfl rfl rfl (by decide) ?_
          refine VL.gn rfl rfl rfl (by decide) ?_
          refine VL.gn rfl rfl rfl (by decide) ?_
          refine VL.gn rfl rfl rfl (by decide) ?_
          refine VL.gn rfl rfl rfl (by decide) ?_
          refine VL.gn rfl rfl rfl (by decide) ?_
          refine VL.gn rfl rfl rfl (by decide) ?_
          refine VL.gn rfl rfl rfl (by decide) ?_
          refine VL.gn rfl rfl rfl (by decide) ?_
          refine VL.gn rfl rfl rfl (by decide) ?_
          refine VL.gy rfl rfl (q_pick_t rfl rfl) (by decide) ?_
          refine VL.q (q_pick_t rfl rfl) (by decide) ?_
          refine VL.q (q_assign rfl) (by decide) ?_
          refine VL.to (fun _ _ h => h) ?_
          refine VC.cond_t rfl ?_
          refine VC.seq ?_
          refine VC.region ?_
          refine VL.q (q_assign rfl) (by decide) ?_
          refine VL.to (fun _ _ h => h) ?_
          exact VC.ret (fin1I (.inr rfl) rfl rfl () (congrArg i64 (by first | exact stepv_a hi0 (by omega) | exact stepv_b hi0 (by omega) hj0 (by omega) | exact stepv_1 hz30 hz37 (by assumption) | exact stepv_2 hi0 hj0 hz30 hz37 (by assumption) (by assumption) | exact stepv_3 hi0 hj0 hz30 hz37 (by assumption) (by assumption))) (trivial) (fun _ _ => trivial))
        · -- else of 57
          refine VL.gy rfl rfl (q_move rfl) (by decide) ?_
          refine VL.gy rfl rfl (q_move rfl) (by decide) ?_
          refine VL.gy rfl rfl (q_add rfl rfl ⟨by omega, by omega⟩) (by decide) ?_
          refine VL.gy rfl rfl (q_move rfl) (by decide) ?_
          refine VL.gy rfl rfl (q_call (at_ct b0 a b n (i + 1) j (lcs (a.l.drop (i + 1).toNat) (b.l.drop j.toNat) : Int) (by omega) (by omega) (by omega) (by omega) (by omega) (hT.2 _ _ (by omega) (by omega) (by trivial))) rfl (fun _ _ => rfl)) (by decide) ?_
          refine VL.gy rfl rfl (q_move rfl) (by decide) ?_
          refine VL.gy rfl rfl (q_move rfl) (by decide) ?_
          refine VL.gy rfl rfl (q_move rfl) (by decide) ?_
          refine VL.gy rfl rfl (q_add rfl rfl ⟨by omega, by omega⟩) (by decide) ?_
          refine VL.gy rfl rfl (q_call (at_ct b0 a b n i (j + 1) (lcs (a.l.drop i.toNat) (b.l.drop (j + 1).toNat) : Int) (by omega) (by omega) (by omega) (by omega) (by omega) (hT.2 _ _ (by omega) (by omega) (by trivial))) rfl (fun _ _ => rfl)) (by decide) ?_
          refine VL.gy rfl rfl (q_geq rfl rfl) (by decide) ?_
          refine VL.gy rfl rfl (q_pick_f rfl rfl) (by decide) ?_
          refine VL.q (q_pick_t rfl rfl) (by decide) ?_
          refine VL.q (q_assign rfl) (by decide) ?_
          refine VL.to (fun _ _ h => h) ?_
          refine VC.cond_dec rfl (fun h41 => ?_) (fun h41 => ?_)
          · -- then of 41
            refine VC.seq ?_
            refine VC.region ?_
            refine VL.q (q_assign rfl) (by decide) ?_
            refine VL.to (fun _ _ h => h) ?_
            exact VC.ret (fin1I (.inr rfl) rfl rfl () (congrArg i64 (by first | exact stepv_a hi0 (by omega) | exact stepv_b hi0 (by omega) hj0 (by omega) | exact stepv_1 hz30 hz37 (by assumption) | exact stepv_2 hi0 hj0 hz30 hz37 (by assumption) (by assumption) | exact stepv_3 hi0 hj0 hz30 hz37 (by assumption) (by assumption))) (trivial) (fun _ _ => trivial))
          · -- else of 41
            refine VC.skip_to (fun _ _ h => h) ?_
            refine VC.seq ?_
            refine VC.region ?_
            refine VL.q (q_assign rfl) (by decide) ?_
            refine VL.to (fun _ _ h => h) ?_
            exact VC.ret (fin1I (.inr rfl) rfl rfl () (congrArg i64 (by first | exact stepv_a hi0 (by omega) | exact stepv_b hi0 (by omega) hj0 (by omega) | exact stepv_1 hz30 hz37 (by assumption) | exact stepv_2 hi0 hj0 hz30 hz37 (by assumption) (by assumption) | exact stepv_3 hi0 hj0 hz30 hz37 (by assumption) (by assumption))) (trivial) (fun _ _ => trivial))
      · -- else of 49
        refine VL.gn rfl rfl rfl (by decide) ?_
        refine VL.gn rfl rfl rfl (by decide) ?_
        refine VL.gn rfl rfl rfl (by decide) ?_
        refine VL.gn rfl rfl rfl (by decide) ?_
        refine VL.gn rfl rfl rfl (by decide) ?_
        refine VL.gn rfl rfl rfl (by decide) ?_
        refine VL.gn rfl rfl rfl (by decide) ?_
        refine VL.gn rfl rfl rfl (by decide) ?_
        refine VL.gu rfl rfl (by decide) ?_
        refine VL.gu rfl rfl (by decide) ?_
        refine VL.gu rfl rfl (by decide) ?_
        refine VL.gu rfl rfl (by decide) ?_
        refine VL.gu rfl rfl (by decide) ?_
        refine VL.gu rfl rfl (by decide) ?_
        refine VL.gu rfl rfl (by decide) ?_
        refine VL.gu rfl rfl (by decide) ?_
        refine VL.gu rfl rfl (by decide) ?_
        refine VL.gu rfl rfl (by decide) ?_
        refine VL.gu rfl rfl (by decide) ?_
        refine VL.gn rfl rfl rfl (by decide) ?_
        refine VL.q (q_pick_f rfl rfl) (by decide) ?_
        refine VL.q (q_assign rfl) (by decide) ?_
        refine VL.to (fun _ _ h => h) ?_
        refine VC.cond_f rfl ?_
        refine VC.skip_to (fun _ _ h => h) ?_
        refine VC.seq ?_
        refine VC.region ?_
        refine VL.q (q_assign rfl) (by decide) ?_
        refine VL.to (fun _ _ h => h) ?_
        exact VC.ret (fin1I (.inr rfl) rfl rfl () (congrArg i64 (by first | exact stepv_a hi0 (by omega) | exact stepv_b hi0 (by omega) hj0 (by omega) | exact stepv_1 hz30 hz37 (by assumption) | exact stepv_2 hi0 hj0 hz30 hz37 (by assumption) (by assumption) | exact stepv_3 hi0 hj0 hz30 hz37 (by assumption) (by assumption))) (trivial) (fun _ _ => trivial))
  · -- else of 15
    refine VD.gn rfl rfl rfl rfl (by decide) ?_
    refine VD.gn rfl rfl rfl rfl (by decide) ?_
    refine VD.gn rfl rfl rfl rfl (by decide) ?_
    refine VD.gn rfl rfl rfl rfl (by decide) ?_
    refine VD.gn rfl rfl rfl rfl (by decide) ?_
    refine VD.gn rfl rfl rfl rfl (by decide) ?_
    refine VD.gn rfl rfl rfl rfl (by decide) ?_
    refine VD.q rfl (q_pick_f rfl rfl) (by decide) ?_
    refine VD.q rfl (q_move rfl) (by decide) ?_
    refine VD.gn rfl rfl rfl rfl (by decide) ?_
    refine VD.gn rfl rfl rfl rfl (by decide) ?_
    refine VD.gn rfl rfl rfl rfl (by decide) ?_
    refine VD.gn rfl rfl rfl rfl (by decide) ?_
    refine VD.gn rfl rfl rfl rfl (by decide) ?_
    refine VD.gn rfl rfl rfl rfl (by decide) ?_
    refine VD.gn rfl rfl rfl rfl (by decide) ?_
    refine VD.gn rfl rfl rfl rfl (by decide) ?_
    refine VD.gn rfl rfl rfl rfl (by decide) ?_
    refine VD.gn rfl rfl rfl rfl (by decide) ?_
    refine VD.gn rfl rfl rfl rfl (by decide) ?_
    refine VD.gn rfl rfl rfl rfl (by decide) ?_
    refine VD.gn rfl rfl rfl rfl (by decide) ?_
    refine VD.gn rfl rfl rfl rfl (by decide) ?_
    refine VD.gn rfl rfl rfl rfl (by decide) ?_
    refine VD.q rfl (q_pick_f rfl rfl) (by decide) ?_
    refine VD.q rfl (q_assign rfl) (by decide) ?_
    refine VD.to (fun _ _ h => h) ?_
    refine VC.cond_f rfl ?_
    refine VC.seq ?_
    refine VC.region ?_
    refine VL.q (q_move rfl) (by decide) ?_
    refine VL.q (q_move rfl) (by decide) ?_
    refine VL.q (q_nilCheck rfl) (by decide) ?_
    refine VL.q (q_field fa103_0 rfl) (by decide) ?_
    refine VL.q (q_fm one28 rfl rfl) (by decide) ?_
    refine VL.q (q_ln (s := a) Try.underlying28 rfl) (by decide) ?_
    refine VL.q (q_lss rfl rfl) (by decide) ?_
    refine VL.q (q_move rfl) (by decide) ?_
    refine VL.split_dec 49 rfl (fun h49 => ?_) (fun h49 => ?_)
    · -- then of 49
      refine VL.gy rfl rfl (q_move rfl) (by decide) ?_
      refine VL.gy rfl rfl (q_move rfl) (by decide) ?_
      refine VL.gy rfl rfl (q_nilCheck rfl) (by decide) ?_
      refine VL.gy rfl rfl (q_field fa103_1 rfl) (by decide) ?_
      refine VL.gy rfl rfl (q_fm one28 rfl rfl) (by decide) ?_
      refine VL.gy rfl rfl (q_ln (s := b) Try.underlying28 rfl) (by decide) ?_
      refine VL.gy rfl rfl (q_eql rfl rfl) (by decide) ?_
      refine VL.gy rfl rfl (q_move rfl) (by decide) ?_
      refine VL.split_dec 57 rfl (fun h57 => ?_) (fun h57 => ?_)
      · -- then of 57
        refine VL.gn rfl rfl rfl (by decide) ?_
        refine VL.gn rfl rfl rfl (by decide) ?_
        refine VL.gn rfl rfl rfl (by decide) ?_
        refine VL.gn rfl rfl rfl (by decide) ?_
        refine VL.gn rfl rfl rfl (by decide) ?_
        refine VL.gn rfl rfl rfl (by decide) ?_
        refine VL.gn rfl rfl rfl (by decide) ?_
        refine VL.gn rfl rfl rfl (by decide) ?_
        refine VL.gn rfl rfl rfl (by decide) ?_
        refine VL.gn rfl rfl rfl (by decide) ?_
        refine VL.gn rfl rfl rfl (by decide) ?_
        refine VL.gy rfl rfl (q_pick_t rfl rfl) (by decide) ?_
        refine VL.q (q_pick_t rfl rfl) (by decide) ?_
        refine VL.q (q_assign rfl) (by decide) ?_
        refine VL.to (fun _ _ h => h) ?_
        refine VC.cond_t rfl ?_
        refine VC.seq ?_
        refine VC.region ?_
        refine VL.q (q_assign rfl) (by decide) ?_
        refine VL.to (fun _ _ h => h) ?_
        exact VC.ret (fin1I (.inr rfl) rfl rfl () (congrArg i64 (by first | exact stepv_a hi0 (by omega) | exact stepv_b hi0 (by omega) hj0 (by omega) | exact stepv_1 hz30 hz37 (by assumption) | exact stepv_2 hi0 hj0 hz30 hz37 (by assumption) (by assumption) | exact stepv_3 hi0 hj0 hz30 hz37 (by assumption) (by assumption))) (trivial) (fun _ _ => trivial))
      · -- else of 57
        refine VL.gy rfl rfl (q_move rfl) (by decide) ?_
        refine VL.gy rfl rfl (q_move rfl) (by decide) ?_
        refine VL.gy rfl rfl (q_add rfl rfl ⟨by omega, by omega⟩) (by decide) ?_
        refine VL.gy rfl rfl (q_move rfl) (by decide) ?_
        refine VL.gy rfl rfl (q_call (at_ct b0 a b n (i + 1) j (lcs (a.l.drop (i + 1).toNat) (b.l.drop j.toNat) : Int) (by omega) (by omega) (by omega) (by omega) (by omega) (hT.2 _ _ (by omega) (by omega) (by trivial))) rfl (fun _ _ => rfl)) (by decide) ?_
        refine VL.gy rfl rfl (q_move rfl) (by decide) ?_
        refine VL.gy rfl rfl (q_move rfl) (by decide) ?_
        refine VL.gy rfl rfl (q_move rfl) (by decide) ?_
        refine VL.gy rfl rfl (q_add rfl rfl ⟨by omega, by omega⟩) (by decide) ?_
        refine VL.gy rfl rfl (q_call (at_ct b0 a b n i (j + 1) (lcs (a.l.drop i.toNat) (b.l.drop (j + 1).toNat) : Int) (by omega) (by omega) (by omega) (by omega) (by omega) (hT.2 _ _ (by omega) (by omega) (by trivial))) rfl (fun _ _ => rfl)) (by decide) ?_
        refine VL.gy rfl rfl (q_geq rfl rfl) (by decide) ?_
        refine VL.gy rfl rfl (q_pick_f rfl rfl) (by decide) ?_
        refine VL.q (q_pick_t rfl rfl) (by decide) ?_
        refine VL.q (q_assign rfl) (by decide) ?_
        refine VL.to (fun _ _ h => h) ?_
        refine VC.cond_dec rfl (fun h41 => ?_) (fun h41 => ?_)
        · -- then of 41
          refine VC.seq ?_
          refine VC.region ?_
          refine VL.q (q_assign rfl) (by decide) ?_
          refine VL.to (fun _ _ h => h) ?_
          exact VC.ret (fin1I (.inr rfl) rfl rfl () (congrArg i64 (by first | exact stepv_a hi0 (by omega) | exact stepv_b hi0 (by omega) hj0 (by omega) | exact stepv_1 hz30 hz37 (by assumption) | exact stepv_2 hi0 hj0 hz30 hz37 (by assumption) (by assumption) | exact stepv_3 hi0 hj0 hz30 hz37 (by assumption) (by assumption))) (trivial) (fun _ _ => trivial))
        · -- else of 41
          refine VC.skip_to (fun _ _ h => h) ?_
          refine VC.seq ?_
          refine VC.region ?_
          refine VL.q (q_assign rfl) (by decide) ?_
          refine VL.to (fun _ _ h => h) ?_
          exact VC.ret (fin1I (.inr rfl) rfl rfl () (congrArg i64 (by first | exact stepv_a hi0 (by omega) | exact stepv_b hi0 (by omega) hj0 (by omega) | exact stepv_1 hz30 hz37 (by assumption) | exact stepv_2 hi0 hj0 hz30 hz37 (by assumption) (by assumption) | exact stepv_3 hi0 hj0 hz30 hz37 (by assumption) (by assumption))) (trivial) (fun _ _ => trivial))
    · -- else of 49
      refine VL.gn rfl rfl rfl (by decide) ?_
      refine VL.gn rfl rfl rfl (by decide) ?_
      refine VL.gn rfl rfl rfl (by decide) ?_
      refine VL.gn rfl rfl rfl (by decide) ?_
      refine VL.gn rfl rfl rfl (by decide) ?_
      refine VL.gn rfl rfl rfl (by decide) ?_
      refine VL.gn rfl rfl rfl (by decide) ?_
      refine VL.gn rfl rfl rfl (by decide) ?_
      refine VL.gu rfl rfl (by decide) ?_
      refine VL.gu rfl rfl (by decide) ?_
      refine VL.gu rfl rfl (by decide) ?_
      refine VL.gu rfl rfl (by decide) ?_
      refine VL.gu rfl rfl (by decide) ?_
      refine VL.gu rfl rfl (by decide) ?_
      refine VL.gu rfl rfl (by decide) ?_
      refine VL.gu rfl rfl (by decide) ?_
      refine VL.gu rfl rfl (by decide) ?_
      refine VL.gu rfl rfl (by decide) ?_
      refine VL.gu rfl rfl (by decide) ?_
      refine VL.gn rfl rfl rfl (by decide) ?_
      refine VL.q (q_pick_f rfl rfl) (by decide) ?_
      refine VL.q (q_assign rfl) (by decide) ?_
      refine VL.to (fun _ _ h => h) ?_
      refine VC.cond_f rfl ?_
      refine VC.skip_to (fun _ _ h => h) ?_
      refine VC.seq ?_
      refine VC.region ?_
      refine VL.q (q_assign rfl) (by decide) ?_
      refine VL.to (fun _ _ h => h) ?_
      exact VC.ret (fin1I (.inr rfl) rfl rfl () (congrArg i64 (by first | exact stepv_a hi0 (by omega) | exact stepv_b hi0 (by omega) hj0 (by omega) | exact stepv_1 hz30 hz37 (by assumption) | exact stepv_2 hi0 hj0 hz30 hz37 (by assumption) (by assumption) | exact stepv_3 hi0 hj0 hz30 hz37 (by assumption) (by assumption))) (trivial) (fun _ _ => trivial))

end Go.Proofs.Ytmkncbldffncpaa
end

section
namespace Go.Proofs.Ytmkncbldffncpaa
open Go.RowKit Go.V
open Go.P hiding Str
theorem lit78 : ((Try.prog.info? 78).map fun i => (i.size, i.zero.isSome)) = some (2, true) := by kernel_rfl
theorem app78 : ((Try.prog.info? 78).map fun i => (i.size, i.bytes, (i.zero.map fun z => z.cells.size))) = some (2, 24, some 2) := by kernel_rfl
-- Lines
set_option maxRecDepth 100000 in
theorem lines_ct (a b : Sv Str) (ha : a.l.length ≤ 256) (hb : b.l.length ≤ 256) :
    Ct Try.prog 43 [a.val, b.val] (a.ok.and b.ok) Ow.emp (X := Sv Edit) (fun q => .tuple #[q.val, .nilIface]) (fun q => q.l = edits a.l b.l) (fun q => q.ok) (fun _ => Ow.emp) := by
  refine Ct.of Try.func43 rfl (by kernel_rfl) Try.ntmps43 (by simp) fun c => ?_
  refine VC.seq ?_
  refine VC.region ?_
  refine VL.q (q_assign rfl) (by decide) ?_
  refine VL.q (q_assign rfl) (by decide) ?_
  refine VL.to (fun _ _ h => h) ?_
  refine VC.seq ?_
  refine VC.region ?_
  refine VL.q (q_move rfl) (by decide) ?_
  refine VL.q (q_move rfl) (by decide) ?_
  refine VL.callF (made_ct a b (by first | assumption | omega) (by first | assumption | omega)) rfl (by decide) ?_
  rintro ⟨b0, n⟩ hT
  dsimp only at hT
  dsimp only
  refine VL.q (q_move rfl) (by decide) ?_
  refine VL.q (q_extract rfl rfl) (by decide) ?_
  refine VL.q (q_extract rfl rfl) (by decide) ?_
  refine VL.q (q_assign rfl) (by decide) ?_
  refine VL.q (q_assign rfl) (by decide) ?_
  refine VL.to (fun _ _ h => h) ?_
  refine VC.seq ?_
  refine VC.seq ?_
  refine VC.region ?_
  refine VL.q (q_move rfl) (by decide) ?_
  refine VL.q (q_nilne Try.underlying24 rfl) (by decide) ?_
  refine VL.to (fun _ _ h => h) ?_
  refine VC.cond_f rfl ?_
  refine VC.skip_to (fun _ _ h => h) ?_
  refine VC.seq ?_
  refine VC.region ?_
  refine VL.q (q_assign rfl) (by decide) ?_
  refine VL.to (fun _ _ h => h) ?_
  refine VC.seq ?_
  refine VC.seq ?_
  refine VC.region ?_
  refine VL.q (q_assign rfl) (by decide) ?_
  refine VL.q (q_assign rfl) (by decide) ?_
  refine VL.to (fun _ _ h => h) ?_
  refine VC.block ?_
  refine VC.nilO (⟨none, 0, []⟩ : Sv Edit) 78 ⟨rfl, rfl⟩ ?_
  refine VC.loopK (S := Int × Int × Sv Edit) (fun sg => 0 ≤ sg.1 ∧ sg.1 ≤ a.l.length ∧ 0 ≤ sg.2.1 ∧ sg.2.1 ≤ b.l.length ∧ (sg.2.2.l.length : Int) ≤ sg.1 + sg.2.1 ∧ sg.2.2.l ++ edits (a.l.drop sg.1.toNat) (b.l.drop sg.2.1.toNat) = edits a.l b.l) (fun sg => [(0, a.val), (1, b.val), (4, .slice none 0 0), (5, .nilIface), (6, ptr b0 0), (7, .nilIface), (9, i64 sg.1), (10, i64 sg.2.1), (8, sg.2.2.val)]) (fun sg => Ow.star (Sv.own sg.2.2 78) (Ow.emp)) (fun sg => ((a.l.length - sg.1) + (b.l.length - sg.2.1)).toNat) (0, 0, ⟨none, 0, []⟩) [0, 1, 4, 5, 6, 7, 9, 10, 8] (by (try dsimp only); exact ⟨by omega, by omega, by omega, by omega, by simp, rfl⟩) rfl (by (try dsimp only); exact EntO.out) ?_
  rintro ⟨i, j, o⟩ hI
  show VC _ _ _ _ _ [(0, a.val), (1, b.val), (4, .slice none 0 0), (5, .nilIface), (6, ptr b0 0), (7, .nilIface), (9, i64 i), (10, i64 j), (8, o.val)] _ (Ow.star (Sv.own o 78) (Ow.emp))
  try dsimp only at hI
  obtain ⟨hi0, hi1, hj0, hj1, hol, hed⟩ := hI
  refine VC.seq ?_
  refine VC.seq ?_
  refine VC.region ?_
  refine VL.q (q_move rfl) (by decide) ?_
  refine VL.q (q_move rfl) (by decide) ?_
  refine VL.q (q_ln (s := a) Try.underlying28 rfl) (by decide) ?_
  refine VL.q (q_lss rfl rfl) (by decide) ?_
  refine VL.q (q_move rfl) (by decide) ?_
  refine VL.split_dec 26 rfl (fun h26 => ?_) (fun h26 => ?_)
  · -- then of 26
    refine VL.gn rfl rfl rfl (by decide) ?_
    refine VL.gn rfl rfl rfl (by decide) ?_
    refine VL.gn rfl rfl rfl (by decide) ?_
    refine VL.gn rfl rfl rfl (by decide) ?_
    refine VL.q (q_pick_t rfl rfl) (by decide) ?_
    refine VL.to (fun _ _ h => h) ?_
    refine VC.cond_t rfl ?_
    refine VC.skip_to (fun _ _ h => h) ?_
    refine VC.block ?_
    refine VC.seq ?_
    refine VC.region ?_
    refine VL.q (q_move rfl) (by decide) ?_
    refine VL.q (q_move rfl) (by decide) ?_
    refine VL.q (q_move rfl) (by decide) ?_
    refine VL.q (q_call (step_ct b0 a b n i j (by omega) (by omega) (by omega) (by omega) ha hb hT) rfl (fun _ _ => rfl)) (by decide) ?_
    refine VL.q (q_assign rfl) (by decide) ?_
    refine VL.to (fun _ _ h => h) ?_
    refine VC.seq ?_
    refine VC.region ?_
    refine VL.q (q_assign rfl) (by decide) ?_
    refine VL.to (fun _ _ h => h) ?_
    refine VC.seq ?_
    refine VC.seq ?_
    refine VC.region ?_
    refine VL.q (q_move rfl) (by decide) ?_
    refine VL.to (fun _ _ h => h) ?_
    refine VC.block ?_
    refine VC.seq ?_
    refine VC.block ?_
    refine VC.seq ?_
    refine VC.block ?_
    refine VC.seq ?_
    refine VC.block ?_
    refine VC.seq ?_
    refine VC.seq ?_
    refine VC.seq ?_
    refine VC.region ?_
    refine VL.q (q_eql rfl rfl) (by decide) ?_
    refine VL.q (q_assign rfl) (by decide) ?_
    refine VL.to (fun _ _ h => h) ?_
    refine VC.cond_dec rfl (fun h37 => ?_) (fun h37 => ?_)
    · -- then of 37
      obtain ⟨hia, hjb⟩ := stepv_is1 h37
      refine VC.exit_to (fun _ _ h => h) ?_
      refine VC.region ?_
      refine VL.q (q_move rfl) (by decide) ?_
      refine VL.q (q_add rfl rfl ⟨by omega, by omega⟩) (by decide) ?_
      refine VL.q (q_assign rfl) (by decide) ?_
      refine VL.to (fun _ _ h => h) ?_
      refine VC.seq ?_
      refine VC.seq ?_
      refine VC.region ?_
      refine VL.q (q_move rfl) (by decide) ?_
      refine VL.q (q_move rfl) (by decide) ?_
      obtain ⟨z47, hz47⟩ : ∃ z, a.l[(i).toNat]? = some z := ⟨_, List.getElem?_eq_getElem (by omega)⟩
      refine VL.q (q_ixm (s := a) Try.underlying28 sz9 rfl rfl (by omega) (by omega)) (by decide) ?_
      refine VL.q (q_el (s := a) one9 rfl hz47 rfl) (by decide) ?_
      refine VL.q (q_assign rfl) (by decide) ?_
      refine VL.to (fun _ _ h => h) ?_
      refine VC.region ?_
      refine VL.q (q_move rfl) (by decide) ?_
      refine VL.q (q_add rfl rfl ⟨by omega, by omega⟩) (by decide) ?_
      refine VL.q (q_assign rfl) (by decide) ?_
      refine VL.to (fun _ _ h => h) ?_
      refine VC.exit_to (fun _ _ h => h) ?_
      refine VC.region ?_
      refine VL.q (q_move rfl) (by decide) ?_
      refine VL.q (q_move rfl) (by decide) ?_
      refine VL.q (q_move rfl) (by decide) ?_
      refine VL.q (q_build (vs := [(0, i64 (stepv (a.l.drop i.toNat) (b.l.drop j.toNat))), (1, str z47)]) (cs := #[i64 (stepv (a.l.drop i.toNat) (b.l.drop j.toNat)), str z47]) rfl (by kernel_rfl)) (by decide) ?_
      refine VL.lit (α := Edit) (xs := [.tmp 60]) (vs := [.agg #[i64 (stepv (a.l.drop i.toNat) (b.l.drop j.toNat)), str z47]]) [⟨(stepv (a.l.drop i.toNat) (b.l.drop j.toNat)), z47⟩] Try.underlying74 lit78 (by decide) rfl rfl rfl rfl (by decide) (fun _ _ _ _ => trivial) (by decide) (fun s61 hs61 => ?_) (by decide)
      refine VL.app (s := o) (r := s61) Try.underlying74 app78 (by decide) rfl Fo.out (by rw [hs61]; simp; omega) (by rw [hs61]; simp; omega) (by decide) (fun s62 hs62 => ?_)
      refine VL.q (q_assign rfl) (by decide) ?_
      refine VL.anyI ((i + 1), (j + 1), s62) [0, 1, 4, 5, 6, 7, 9, 10, 8] (fun _ _ h => h) ?_ rfl (by (try dsimp only); exact EntO.out)
      try dsimp only
      have hlen : s62.l.length = o.l.length + 1 := by rw [hs62, hs61]; simp
      first
        | exact ⟨⟨by omega, by omega, by omega, by omega, by omega, round_1 hi0 hj0 (by assumption) hz47 hed hs62 hs61⟩, by omega⟩
        | exact ⟨⟨by omega, by omega, by omega, by omega, by omega, round_2 hi0 (by assumption) hz47 hed hs62 hs61⟩, by omega⟩
        | exact ⟨⟨by omega, by omega, by omega, by omega, by omega, round_3 hj0 (by assumption) hz53 hed hs62 hs61⟩, by omega⟩
    · -- else of 37
      refine VC.skip_to (fun _ _ h => h) ?_
      refine VC.seq ?_
      refine VC.seq ?_
      refine VC.region ?_
      refine VL.q (q_eql rfl rfl) (by decide) ?_
      refine VL.q (q_assign rfl) (by decide) ?_
      refine VL.to (fun _ _ h => h) ?_
      refine VC.cond_dec rfl (fun h39 => ?_) (fun h39 => ?_)
      · -- then of 39
        have hia := stepv_is2 h39
        refine VC.exit_to (fun _ _ h => h) ?_
        refine VC.seq ?_
        refine VC.seq ?_
        refine VC.region ?_
        refine VL.q (q_move rfl) (by decide) ?_
        refine VL.q (q_move rfl) (by decide) ?_
        obtain ⟨z47, hz47⟩ : ∃ z, a.l[(i).toNat]? = some z := ⟨_, List.getElem?_eq_getElem (by omega)⟩
        refine VL.q (q_ixm (s := a) Try.underlying28 sz9 rfl rfl (by omega) (by omega)) (by decide) ?_
        refine VL.q (q_el (s := a) one9 rfl hz47 rfl) (by decide) ?_
        refine VL.q (q_assign rfl) (by decide) ?_
        refine VL.to (fun _ _ h => h) ?_
        refine VC.region ?_
        refine VL.q (q_move rfl) (by decide) ?_
        refine VL.q (q_add rfl rfl ⟨by omega, by omega⟩) (by decide) ?_
        refine VL.q (q_assign rfl) (by decide) ?_
        refine VL.to (fun _ _ h => h) ?_
        refine VC.exit_to (fun _ _ h => h) ?_
        refine VC.region ?_
        refine VL.q (q_move rfl) (by decide) ?_
        refine VL.q (q_move rfl) (by decide) ?_
        refine VL.q (q_move rfl) (by decide) ?_
        refine VL.q (q_build (vs := [(0, i64 (stepv (a.l.drop i.toNat) (b.l.drop j.toNat))), (1, str z47)]) (cs := #[i64 (stepv (a.l.drop i.toNat) (b.l.drop j.toNat)), str z47]) rfl (by kernel_rfl)) (by decide) ?_
        refine VL.lit (α := Edit) (xs := [.tmp 60]) (vs := [.agg #[i64 (stepv (a.l.drop i.toNat) (b.l.drop j.toNat)), str z47]]) [⟨(stepv (a.l.drop i.toNat) (b.l.drop j.toNat)), z47⟩] Try.underlying74 lit78 (by decide) rfl rfl rfl rfl (by decide) (fun _ _ _ _ => trivial) (by decide) (fun s61 hs61 => ?_) (by decide)
        refine VL.app (s := o) (r := s61) Try.underlying74 app78 (by decide) rfl Fo.out (by rw [hs61]; simp; omega) (by rw [hs61]; simp; omega) (by decide) (fun s62 hs62 => ?_)
        refine VL.q (q_assign rfl) (by decide) ?_
        refine VL.anyI ((i + 1), j, s62) [0, 1, 4, 5, 6, 7, 9, 10, 8] (fun _ _ h => h) ?_ rfl (by (try dsimp only); exact EntO.out)
        try dsimp only
        have hlen : s62.l.length = o.l.length + 1 := by rw [hs62, hs61]; simp
        first
          | exact ⟨⟨by omega, by omega, by omega, by omega, by omega, round_1 hi0 hj0 (by assumption) hz47 hed hs62 hs61⟩, by omega⟩
          | exact ⟨⟨by omega, by omega, by omega, by omega, by omega, round_2 hi0 (by assumption) hz47 hed hs62 hs61⟩, by omega⟩
          | exact ⟨⟨by omega, by omega, by omega, by omega, by omega, round_3 hj0 (by assumption) hz53 hed hs62 hs61⟩, by omega⟩
      · -- else of 39
        refine VC.skip_to (fun _ _ h => h) ?_
        refine VC.seq ?_
        refine VC.region ?_
        refine VL.q (q_eql rfl rfl) (by decide) ?_
        refine VL.q (q_assign rfl) (by decide) ?_
        refine VL.to (fun _ _ h => h) ?_
        refine VC.cond_dec rfl (fun h41 => ?_) (fun h41 => ?_)
        · -- then of 41
          have hjb := stepv_is3 hi0 hj0 h41 (by first | exact .inl (by assumption) | exact .inr (by assumption))
          refine VC.exit_to (fun _ _ h => h) ?_
          refine VC.seq ?_
          refine VC.seq ?_
          refine VC.region ?_
          refine VL.q (q_move rfl) (by decide) ?_
          refine VL.q (q_move rfl) (by decide) ?_
          obtain ⟨z53, hz53⟩ : ∃ z, b.l[(j).toNat]? = some z := ⟨_, List.getElem?_eq_getElem (by omega)⟩
          refine VL.q (q_ixm (s := b) Try.underlying28 sz9 rfl rfl (by omega) (by omega)) (by decide) ?_
          refine VL.q (q_el (s := b) one9 rfl hz53 rfl) (by decide) ?_
          refine VL.q (q_assign rfl) (by decide) ?_
          refine VL.to (fun _ _ h => h) ?_
          refine VC.region ?_
          refine VL.q (q_move rfl) (by decide) ?_
          refine VL.q (q_add rfl rfl ⟨by omega, by omega⟩) (by decide) ?_
          refine VL.q (q_assign rfl) (by decide) ?_
          refine VL.to (fun _ _ h => h) ?_
          refine VC.exit_to (fun _ _ h => h) ?_
          refine VC.region ?_
          refine VL.q (q_move rfl) (by decide) ?_
          refine VL.q (q_move rfl) (by decide) ?_
          refine VL.q (q_move rfl) (by decide) ?_
          refine VL.q (q_build (vs := [(0, i64 (stepv (a.l.drop i.toNat) (b.l.drop j.toNat))), (1, str z53)]) (cs := #[i64 (stepv (a.l.drop i.toNat) (b.l.drop j.toNat)), str z53]) rfl (by kernel_rfl)) (by decide) ?_
          refine VL.lit (α := Edit) (xs := [.tmp 60]) (vs := [.agg #[i64 (stepv (a.l.drop i.toNat) (b.l.drop j.toNat)), str z53]]) [⟨(stepv (a.l.drop i.toNat) (b.l.drop j.toNat)), z53⟩] Try.underlying74 lit78 (by decide) rfl rfl rfl rfl (by decide) (fun _ _ _ _ => trivial) (by decide) (fun s61 hs61 => ?_) (by decide)
          refine VL.app (s := o) (r := s61) Try.underlying74 app78 (by decide) rfl Fo.out (by rw [hs61]; simp; omega) (by rw [hs61]; simp; omega) (by decide) (fun s62 hs62 => ?_)
          refine VL.q (q_assign rfl) (by decide) ?_
          refine VL.anyI (i, (j + 1), s62) [0, 1, 4, 5, 6, 7, 9, 10, 8] (fun _ _ h => h) ?_ rfl (by (try dsimp only); exact EntO.out)
          try dsimp only
          have hlen : s62.l.length = o.l.length + 1 := by rw [hs62, hs61]; simp
          first
            | exact ⟨⟨by omega, by omega, by omega, by omega, by omega, round_1 hi0 hj0 (by assumption) hz47 hed hs62 hs61⟩, by omega⟩
            | exact ⟨⟨by omega, by omega, by omega, by omega, by omega, round_2 hi0 (by assumption) hz47 hed hs62 hs61⟩, by omega⟩
            | exact ⟨⟨by omega, by omega, by omega, by omega, by omega, round_3 hj0 (by assumption) hz53 hed hs62 hs61⟩, by omega⟩
        · rcases stepv_cases (a.l.drop i.toNat) (b.l.drop j.toNat) with h | h | h <;> contradiction
  · -- else of 26
    refine VL.gy rfl rfl (q_move rfl) (by decide) ?_
    refine VL.gy rfl rfl (q_move rfl) (by decide) ?_
    refine VL.gy rfl rfl (q_ln (s := b) Try.underlying28 rfl) (by decide) ?_
    refine VL.gy rfl rfl (q_lss rfl rfl) (by decide) ?_
    refine VL.q (q_pick_f rfl rfl) (by decide) ?_
    refine VL.to (fun _ _ h => h) ?_
    refine VC.cond_dec rfl (fun h31 => ?_) (fun h31 => ?_)
    · -- then of 31
      refine VC.skip_to (fun _ _ h => h) ?_
      refine VC.block ?_
      refine VC.seq ?_
      refine VC.region ?_
      refine VL.q (q_move rfl) (by decide) ?_
      refine VL.q (q_move rfl) (by decide) ?_
      refine VL.q (q_move rfl) (by decide) ?_
      refine VL.q (q_call (step_ct b0 a b n i j (by omega) (by omega) (by omega) (by omega) ha hb hT) rfl (fun _ _ => rfl)) (by decide) ?_
      refine VL.q (q_assign rfl) (by decide) ?_
      refine VL.to (fun _ _ h => h) ?_
      refine VC.seq ?_
      refine VC.region ?_
      refine VL.q (q_assign rfl) (by decide) ?_
      refine VL.to (fun _ _ h => h) ?_
      refine VC.seq ?_
      refine VC.seq ?_
      refine VC.region ?_
      refine VL.q (q_move rfl) (by decide) ?_
      refine VL.to (fun _ _ h => h) ?_
      refine VC.block ?_
      refine VC.seq ?_
      refine VC.block ?_
      refine VC.seq ?_
      refine VC.block ?_
      refine VC.seq ?_
      refine VC.block ?_
      refine VC.seq ?_
      refine VC.seq ?_
      refine VC.seq ?_
      refine VC.region ?_
      refine VL.q (q_eql rfl rfl) (by decide) ?_
      refine VL.q (q_assign rfl) (by decide) ?_
      refine VL.to (fun _ _ h => h) ?_
      refine VC.cond_dec rfl (fun h37 => ?_) (fun h37 => ?_)
      · -- then of 37
        obtain ⟨hia, hjb⟩ := stepv_is1 h37
        refine VC.exit_to (fun _ _ h => h) ?_
        refine VC.region ?_
        refine VL.q (q_move rfl) (by decide) ?_
        refine VL.q (q_add rfl rfl ⟨by omega, by omega⟩) (by decide) ?_
        refine VL.q (q_assign rfl) (by decide) ?_
        refine VL.to (fun _ _ h => h) ?_
        refine VC.seq ?_
        refine VC.seq ?_
        refine VC.region ?_
        refine VL.q (q_move rfl) (by decide) ?_
        refine VL.q (q_move rfl) (by decide) ?_
        obtain ⟨z47, hz47⟩ : ∃ z, a.l[(i).toNat]? = some z := ⟨_, List.getElem?_eq_getElem (by omega)⟩
        refine VL.q (q_ixm (s := a) Try.underlying28 sz9 rfl rfl (by omega) (by omega)) (by decide) ?_
        refine VL.q (q_el (s := a) one9 rfl hz47 rfl) (by decide) ?_
        refine VL.q (q_assign rfl) (by decide) ?_
        refine VL.to (fun _ _ h => h) ?_
        refine VC.region ?_
        refine VL.q (q_move rfl) (by decide) ?_
        refine VL.q (q_add rfl rfl ⟨by omega, by omega⟩) (by decide) ?_
        refine VL.q (q_assign rfl) (by decide) ?_
        refine VL.to (fun _ _ h => h) ?_
        refine VC.exit_to (fun _ _ h => h) ?_
        refine VC.region ?_
        refine VL.q (q_move rfl) (by decide) ?_
        refine VL.q (q_move rfl) (by decide) ?_
        refine VL.q (q_move rfl) (by decide) ?_
        refine VL.q (q_build (vs := [(0, i64 (stepv (a.l.drop i.toNat) (b.l.drop j.toNat))), (1, str z47)]) (cs := #[i64 (stepv (a.l.drop i.toNat) (b.l.drop j.toNat)), str z47]) rfl (by kernel_rfl)) (by decide) ?_
        refine VL.lit (α := Edit) (xs := [.tmp 60]) (vs := [.agg #[i64 (stepv (a.l.drop i.toNat) (b.l.drop j.toNat)), str z47]]) [⟨(stepv (a.l.drop i.toNat) (b.l.drop j.toNat)), z47⟩] Try.underlying74 lit78 (by decide) rfl rfl rfl rfl (by decide) (fun _ _ _ _ => trivial) (by decide) (fun s61 hs61 => ?_) (by decide)
        refine VL.app (s := o) (r := s61) Try.underlying74 app78 (by decide) rfl Fo.out (by rw [hs61]; simp; omega) (by rw [hs61]; simp; omega) (by decide) (fun s62 hs62 => ?_)
        refine VL.q (q_assign rfl) (by decide) ?_
        refine VL.anyI ((i + 1), (j + 1), s62) [0, 1, 4, 5, 6, 7, 9, 10, 8] (fun _ _ h => h) ?_ rfl (by (try dsimp only); exact EntO.out)
        try dsimp only
        have hlen : s62.l.length = o.l.length + 1 := by rw [hs62, hs61]; simp
        first
          | exact ⟨⟨by omega, by omega, by omega, by omega, by omega, round_1 hi0 hj0 (by assumption) hz47 hed hs62 hs61⟩, by omega⟩
          | exact ⟨⟨by omega, by omega, by omega, by omega, by omega, round_2 hi0 (by assumption) hz47 hed hs62 hs61⟩, by omega⟩
          | exact ⟨⟨by omega, by omega, by omega, by omega, by omega, round_3 hj0 (by assumption) hz53 hed hs62 hs61⟩, by omega⟩
      · -- else of 37
        refine VC.skip_to (fun _ _ h => h) ?_
        refine VC.seq ?_
        refine VC.seq ?_
        refine VC.region ?_
        refine VL.q (q_eql rfl rfl) (by decide) ?_
        refine VL.q (q_assign rfl) (by decide) ?_
        refine VL.to (fun _ _ h => h) ?_
        refine VC.cond_dec rfl (fun h39 => ?_) (fun h39 => ?_)
        · -- then of 39
          have hia := stepv_is2 h39
          refine VC.exit_to (fun _ _ h => h) ?_
          refine VC.seq ?_
          refine VC.seq ?_
          refine VC.region ?_
          refine VL.q (q_move rfl) (by decide) ?_
          refine VL.q (q_move rfl) (by decide) ?_
          obtain ⟨z47, hz47⟩ : ∃ z, a.l[(i).toNat]? = some z := ⟨_, List.getElem?_eq_getElem (by omega)⟩
          refine VL.q (q_ixm (s := a) Try.underlying28 sz9 rfl rfl (by omega) (by omega)) (by decide) ?_
          refine VL.q (q_el (s := a) one9 rfl hz47 rfl) (by decide) ?_
          refine VL.q (q_assign rfl) (by decide) ?_
          refine VL.to (fun _ _ h => h) ?_
          refine VC.region ?_
          refine VL.q (q_move rfl) (by decide) ?_
          refine VL.q (q_add rfl rfl ⟨by omega, by omega⟩) (by decide) ?_
          refine VL.q (q_assign rfl) (by decide) ?_
          refine VL.to (fun _ _ h => h) ?_
          refine VC.exit_to (fun _ _ h => h) ?_
          refine VC.region ?_
          refine VL.q (q_move rfl) (by decide) ?_
          refine VL.q (q_move rfl) (by decide) ?_
          refine VL.q (q_move rfl) (by decide) ?_
          refine VL.q (q_build (vs := [(0, i64 (stepv (a.l.drop i.toNat) (b.l.drop j.toNat))), (1, str z47)]) (cs := #[i64 (stepv (a.l.drop i.toNat) (b.l.drop j.toNat)), str z47]) rfl (by kernel_rfl)) (by decide) ?_
          refine VL.lit (α := Edit) (xs := [.tmp 60]) (vs := [.agg #[i64 (stepv (a.l.drop i.toNat) (b.l.drop j.toNat)), str z47]]) [⟨(stepv (a.l.drop i.toNat) (b.l.drop j.toNat)), z47⟩] Try.underlying74 lit78 (by decide) rfl rfl rfl rfl (by decide) (fun _ _ _ _ => trivial) (by decide) (fun s61 hs61 => ?_) (by decide)
          refine VL.app (s := o) (r := s61) Try.underlying74 app78 (by decide) rfl Fo.out (by rw [hs61]; simp; omega) (by rw [hs61]; simp; omega) (by decide) (fun s62 hs62 => ?_)
          refine VL.q (q_assign rfl) (by decide) ?_
          refine VL.anyI ((i + 1), j, s62) [0, 1, 4, 5, 6, 7, 9, 10, 8] (fun _ _ h => h) ?_ rfl (by (try dsimp only); exact EntO.out)
          try dsimp only
          have hlen : s62.l.length = o.l.length + 1 := by rw [hs62, hs61]; simp
          first
            | exact ⟨⟨by omega, by omega, by omega, by omega, by omega, round_1 hi0 hj0 (by assumption) hz47 hed hs62 hs61⟩, by omega⟩
            | exact ⟨⟨by omega, by omega, by omega, by omega, by omega, round_2 hi0 (by assumption) hz47 hed hs62 hs61⟩, by omega⟩
            | exact ⟨⟨by omega, by omega, by omega, by omega, by omega, round_3 hj0 (by assumption) hz53 hed hs62 hs61⟩, by omega⟩
        · -- else of 39
          refine VC.skip_to (fun _ _ h => h) ?_
          refine VC.seq ?_
          refine VC.region ?_
          refine VL.q (q_eql rfl rfl) (by decide) ?_
          refine VL.q (q_assign rfl) (by decide) ?_
          refine VL.to (fun _ _ h => h) ?_
          refine VC.cond_dec rfl (fun h41 => ?_) (fun h41 => ?_)
          · -- then of 41
            have hjb := stepv_is3 hi0 hj0 h41 (by first | exact .inl (by assumption) | exact .inr (by assumption))
            refine VC.exit_to (fun _ _ h => h) ?_
            refine VC.seq ?_
            refine VC.seq ?_
            refine VC.region ?_
            refine VL.q (q_move rfl) (by decide) ?_
            refine VL.q (q_move rfl) (by decide) ?_
            obtain ⟨z53, hz53⟩ : ∃ z, b.l[(j).toNat]? = some z := ⟨_, List.getElem?_eq_getElem (by omega)⟩
            refine VL.q (q_ixm (s := b) Try.underlying28 sz9 rfl rfl (by omega) (by omega)) (by decide) ?_
            refine VL.q (q_el (s := b) one9 rfl hz53 rfl) (by decide) ?_
            refine VL.q (q_assign rfl) (by decide) ?_
            refine VL.to (fun _ _ h => h) ?_
            refine VC.region ?_
            refine VL.q (q_move rfl) (by decide) ?_
            refine VL.q (q_add rfl rfl ⟨by omega, by omega⟩) (by decide) ?_
            refine VL.q (q_assign rfl) (by decide) ?_
            refine VL.to (fun _ _ h => h) ?_
            refine VC.exit_to (fun _ _ h => h) ?_
            refine VC.region ?_
            refine VL.q (q_move rfl) (by decide) ?_
            refine VL.q (q_move rfl) (by decide) ?_
            refine VL.q (q_move rfl) (by decide) ?_
            refine VL.q (q_build (vs := [(0, i64 (stepv (a.l.drop i.toNat) (b.l.drop j.toNat))), (1, str z53)]) (cs := #[i64 (stepv (a.l.drop i.toNat) (b.l.drop j.toNat)), str z53]) rfl (by kernel_rfl)) (by decide) ?_
            refine VL.lit (α := Edit) (xs := [.tmp 60]) (vs := [.agg #[i64 (stepv (a.l.drop i.toNat) (b.l.drop j.toNat)), str z53]]) [⟨(stepv (a.l.drop i.toNat) (b.l.drop j.toNat)), z53⟩] Try.underlying74 lit78 (by decide) rfl rfl rfl rfl (by decide) (fun _ _ _ _ => trivial) (by decide) (fun s61 hs61 => ?_) (by decide)
            refine VL.app (s := o) (r := s61) Try.underlying74 app78 (by decide) rfl Fo.out (by rw [hs61]; simp; omega) (by rw [hs61]; simp; omega) (by decide) (fun s62 hs62 => ?_)
            refine VL.q (q_assign rfl) (by decide) ?_
            refine VL.anyI (i, (j + 1), s62) [0, 1, 4, 5, 6, 7, 9, 10, 8] (fun _ _ h => h) ?_ rfl (by (try dsimp only); exact EntO.out)
            try dsimp only
            have hlen : s62.l.length = o.l.length + 1 := by rw [hs62, hs61]; simp
            first
              | exact ⟨⟨by omega, by omega, by omega, by omega, by omega, round_1 hi0 hj0 (by assumption) hz47 hed hs62 hs61⟩, by omega⟩
              | exact ⟨⟨by omega, by omega, by omega, by omega, by omega, round_2 hi0 (by assumption) hz47 hed hs62 hs61⟩, by omega⟩
              | exact ⟨⟨by omega, by omega, by omega, by omega, by omega, round_3 hj0 (by assumption) hz53 hed hs62 hs61⟩, by omega⟩
          · rcases stepv_cases (a.l.drop i.toNat) (b.l.drop j.toNat) with h | h | h <;> contradiction
    · -- else of 31
      refine VC.exit_to (fun _ _ h => h) ?_
      refine VC.seq ?_
      refine VC.shut o 78 (fun _ _ _ _ => trivial) ?_
      refine VC.region ?_
      refine VL.q (q_move rfl) (by decide) ?_
      refine VL.callF (clipE_ct o) rfl (by decide) ?_
      rintro s64 hs64
      refine VL.q (q_assign rfl) (by decide) ?_
      refine VL.q (q_assign rfl) (by decide) ?_
      refine VL.to (fun _ _ h => h) ?_
      exact VC.ret (fin2I (.inr rfl) rfl rfl rfl s64 rfl ((edits_end (by assumption) (by assumption) hed hs64)) (fun _ _ => trivial))

end Go.Proofs.Ytmkncbldffncpaa
end

section
namespace Go.Proofs.Ytmkncbldffncpaa
open Go.RowKit Go.V
open Go.P hiding Str
theorem agg78 : AggOf Try.prog 78 2 := aggOf_of Try.underlying78 rfl (by kernel_rfl)
theorem fa78_0 : FieldAt Try.prog 78 0 0 := fieldAt_sz (n := 0) (f := ⟨_, _, 0, _, _, _, _⟩) Try.underlying78 rfl (by kernel_rfl)
theorem lit69 : ((Try.prog.info? 69).map fun i => (i.size, i.zero.isSome)) = some (3, true) := by kernel_rfl
theorem app69 : ((Try.prog.info? 69).map fun i => (i.size, i.bytes, (i.zero.map fun z => z.cells.size))) = some (3, 24, some 3) := by kernel_rfl
theorem fa69_2 : FieldAt Try.prog 69 2 2 := fieldAt_sz (n := 0) (f := ⟨_, _, 2, _, _, _, _⟩) Try.underlying69 rfl (by kernel_rfl)
set_option maxRecDepth 100000 in
theorem matches_ct (a b : Sv Str) (ha : a.l.length ≤ 256) (hb : b.l.length ≤ 256) :
    Ct Try.prog 35 [a.val, b.val] (a.ok.and b.ok) Ow.emp (X := Sv Mat) (fun q => .tuple #[q.val, .nilIface]) (fun q => q.l = mats (edits a.l b.l)) (fun q => q.ok) (fun _ => Ow.emp) := by
  refine Ct.of Try.func35 rfl (by kernel_rfl) Try.ntmps35 (by simp) fun c => ?_
  refine VC.seq ?_
  refine VC.region ?_
  refine VL.q (q_assign rfl) (by decide) ?_
  refine VL.q (q_assign rfl) (by decide) ?_
  refine VL.to (fun _ _ h => h) ?_
  refine VC.seq ?_
  refine VC.region ?_
  refine VL.q (q_move rfl) (by decide) ?_
  refine VL.q (q_move rfl) (by decide) ?_
  refine VL.callF (lines_ct a b ha hb) rfl (by decide) ?_
  rintro l hl
  refine VL.q (q_move rfl) (by decide) ?_
  refine VL.q (q_extract rfl rfl) (by decide) ?_
  refine VL.q (q_extract rfl rfl) (by decide) ?_
  refine VL.q (q_assign rfl) (by decide) ?_
  refine VL.q (q_assign rfl) (by decide) ?_
  refine VL.to (fun _ _ h => h) ?_
  refine VC.seq ?_
  refine VC.seq ?_
  refine VC.region ?_
  refine VL.q (q_move rfl) (by decide) ?_
  refine VL.q (q_nilne Try.underlying24 rfl) (by decide) ?_
  refine VL.to (fun _ _ h => h) ?_
  refine VC.cond_f rfl ?_
  refine VC.skip_to (fun _ _ h => h) ?_
  refine VC.seq ?_
  refine VC.region ?_
  refine VL.q (q_assign rfl) (by decide) ?_
  refine VL.to (fun _ _ h => h) ?_
  refine VC.seq ?_
  refine VC.region ?_
  refine VL.q (q_assign rfl) (by decide) ?_
  refine VL.q (q_assign rfl) (by decide) ?_
  refine VL.q (q_assign rfl) (by decide) ?_
  refine VL.to (fun _ _ h => h) ?_
  refine VC.seq ?_
  refine VC.seq ?_
  have hll := edits_len a.l b.l
  rw [← hl] at hll
  refine VC.region ?_
  refine VL.q (q_move rfl) (by decide) ?_
  refine VL.q (q_ln (s := l) Try.underlying74 rfl) (by decide) ?_
  refine VL.q (q_move rfl) (by decide) ?_
  refine VL.to (fun _ _ h => h) ?_
  refine VC.block ?_
  refine VC.nilO (⟨none, 0, []⟩ : Sv Mat) 69 ⟨rfl, rfl⟩ ?_
  refine VC.loopK (S := Int × Int × Int × Bool × Sv Mat) (fun sg => MInv l.l sg.1 sg.2.1 sg.2.2.1 sg.2.2.2.1 sg.2.2.2.2.l) (fun sg => [(0, a.val), (1, b.val), (4, .slice none 0 0), (5, .nilIface), (6, l.val), (7, .nilIface), (23, l.val), (24, i64 (l.l.length : Int)), (25, i64 sg.1), (9, i64 sg.2.1), (10, i64 sg.2.2.1), (11, .bool sg.2.2.2.1), (8, sg.2.2.2.2.val)]) (fun sg => Ow.star (Sv.own sg.2.2.2.2 69) (Ow.emp)) (fun sg => (l.l.length - sg.1).toNat) (0, 0, 0, false, ⟨none, 0, []⟩) [0, 1, 4, 5, 6, 7, 23, 24, 25, 9, 10, 11, 8] (by (try dsimp only); exact ⟨rfl, (fun h => by cases h), by omega, by omega, by omega, by omega, by omega, by omega, by simp, (fun _ h => by cases h)⟩) rfl (by (try dsimp only); exact EntO.out) ?_
  rintro ⟨k, i, j, row, o⟩ hI
  show VC _ _ _ _ _ [(0, a.val), (1, b.val), (4, .slice none 0 0), (5, .nilIface), (6, l.val), (7, .nilIface), (23, l.val), (24, i64 (l.l.length : Int)), (25, i64 k), (9, i64 i), (10, i64 j), (11, .bool row), (8, o.val)] _ (Ow.star (Sv.own o 69) (Ow.emp))
  try dsimp only at hI
  have k0 := hI.k0
  have k1 := hI.k1
  have i0 := hI.i0
  have i1 := hI.i1
  have j0 := hI.j0
  have j1 := hI.j1
  have ho := hI.len
  refine VC.seq ?_
  refine VC.region ?_
  refine VL.q (q_lss rfl rfl) (by decide) ?_
  refine VL.to (fun _ _ h => h) ?_
  refine VC.seq ?_
  refine VC.cond_dec rfl (fun h26 => ?_) (fun h26 => ?_)
  · -- then of 26
    refine VC.skip_to (fun _ _ h => h) ?_
    refine VC.seq ?_
    refine VC.block ?_
    refine VC.seq ?_
    refine VC.region ?_
    obtain ⟨z27, hz27⟩ : ∃ z, l.l[(k).toNat]? = some z := ⟨_, List.getElem?_eq_getElem (by omega)⟩
    refine VL.q (q_ixm (s := l) Try.underlying74 sz78 rfl rfl (by omega) (by omega)) (by decide) ?_
    refine VL.q (q_els (s := l) agg78 rfl rfl hz27) (by decide) ?_
    refine VL.alloc (cs := [i64 0, str []]) (by kernel_rfl) (by decide) fun b13 => ?_
    refine VL.store (vc := [i64 z27.op, str z27.line]) (cs' := [i64 z27.op, str z27.line]) rfl rfl rfl sz78 rfl rfl (Nat.le_of_ble_eq_true rfl) rfl ?_
    refine VL.to (fun _ _ h => h) ?_
    refine VC.seq ?_
    refine VC.seq ?_
    refine VC.region ?_
    refine VL.q (q_field fa78_0 rfl) (by decide) ?_
    refine VL.q (q_fe one3 rfl rfl) (by decide) ?_
    refine VL.q (q_eql rfl rfl) (by decide) ?_
    refine VL.to (fun _ _ h => h) ?_
    refine VC.cond_dec rfl (fun h31 => ?_) (fun h31 => ?_)
    · -- then of 31
      refine VC.seq ?_
      refine VC.seq ?_
      refine VC.region ?_
      refine VL.q (q_move rfl) (by decide) ?_
      refine VL.q (q_not rfl) (by decide) ?_
      refine VL.to (fun _ _ h => h) ?_
      refine VC.cond rfl (fun h33 => ?_) (fun h33 => ?_)
      · -- then of 33
        refine VC.region ?_
        refine VL.q (q_move rfl) (by decide) ?_
        refine VL.q (q_move rfl) (by decide) ?_
        refine VL.q (q_move rfl) (by decide) ?_
        refine VL.q (q_build (vs := [(0, i64 i), (1, i64 j)]) (cs := #[i64 i, i64 j, i64 0]) rfl (by kernel_rfl)) (by decide) ?_
        refine VL.lit (α := Mat) (xs := [.tmp 37]) (vs := [.agg #[i64 i, i64 j, i64 0]]) [⟨i, j, 0⟩] Try.underlying64 lit69 (by decide) rfl rfl rfl rfl (by decide) (fun _ _ _ _ => trivial) (by decide) (fun s38 hs38 => ?_) (by decide)
        refine VL.app (s := o) (r := s38) Try.underlying64 app69 (by decide) rfl Fo.out (by rw [hs38]; simp; omega) (by rw [hs38]; simp; omega) (by decide) (fun s39 hs39 => ?_)
        have hs39' : s39.l = o.l ++ [⟨i, j, 0⟩] := by rw [hs39, hs38]
        have hlen39 : s39.l.length = o.l.length + 1 := by rw [hs39']; simp
        refine VL.q (q_assign rfl) (by decide) ?_
        refine VL.to (fun _ _ h => h) ?_
        skip
        refine VC.region ?_
        refine VL.q (q_move rfl) (by decide) ?_
        refine VL.q (q_move rfl) (by decide) ?_
        refine VL.q (q_ln (s := s39) Try.underlying64 rfl) (by decide) ?_
        refine VL.q (q_sub rfl rfl ⟨by omega, by omega⟩) (by decide) ?_
        obtain ⟨z44, hz44⟩ : ∃ z, s39.l[(((s39.l.length : Int) - 1)).toNat]? = some z := ⟨_, List.getElem?_eq_getElem (by omega)⟩
        refine VL.q (q_ixo (s := s39) Try.underlying64 sz69 rfl rfl (by omega) (by omega)) (by decide) ?_
        refine VL.q (q_field fa69_2 rfl) (by decide) ?_
        have hbd := (hI.bd.snoc hI.i0 hI.j0) z44 (List.mem_of_getElem? (by rw [← hs39']; exact hz44))
        refine VL.q (q_elfo (s := s39) one3 rfl hz44 rfl) (by decide) ?_
        refine VL.q (q_add rfl rfl ⟨by omega, by omega⟩) (by decide) ?_
        refine VL.q (q_ixo (s := s39) Try.underlying64 sz69 rfl rfl (by omega) (by omega)) (by decide) ?_
        refine VL.q (q_field fa69_2 rfl) (by decide) ?_
        refine VL.storeE (s := s39) (T := 69) (j := 2) (vc := [i64 (z44.n + 1)]) (⟨z44.a, z44.b, (z44.n + 1)⟩ : Mat) (by decide) rfl rfl hz44 rfl sz3 rfl rfl (Nat.le_of_ble_eq_true rfl) rfl (fun w0 hw0 haw0 hcw0 hvw0 hbw0 how0 => ?_)
        rw [← hvw0]
        refine VL.to (fun _ _ h => h) ?_
        refine VC.seq ?_
        refine VC.region ?_
        refine VL.q (q_field fa78_0 rfl) (by decide) ?_
        refine VL.q (q_fe one3 rfl rfl) (by decide) ?_
        refine VL.q (q_eql rfl rfl) (by decide) ?_
        refine VL.q (q_assign rfl) (by decide) ?_
        refine VL.to (fun _ _ h => h) ?_
        refine VC.seq ?_
        refine VC.seq ?_
        refine VC.region ?_
        refine VL.q (q_field fa78_0 rfl) (by decide) ?_
        refine VL.q (q_fe one3 rfl rfl) (by decide) ?_
        refine VL.q (q_neq rfl rfl) (by decide) ?_
        refine VL.to (fun _ _ h => h) ?_
        refine VC.cond_ndec rfl (fun h55 => ?_) (fun h55 => ?_)
        · -- then of 55
          refine VC.region ?_
          refine VL.q (q_move rfl) (by decide) ?_
          refine VL.q (q_add rfl rfl ⟨by omega, by omega⟩) (by decide) ?_
          refine VL.q (q_assign rfl) (by decide) ?_
          refine VL.to (fun _ _ h => h) ?_
          refine VC.seq ?_
          refine VC.region ?_
          refine VL.q (q_field fa78_0 rfl) (by decide) ?_
          refine VL.q (q_fe one3 rfl rfl) (by decide) ?_
          refine VL.q (q_neq rfl rfl) (by decide) ?_
          refine VL.to (fun _ _ h => h) ?_
          refine VC.cond_ndec rfl (fun h60 => ?_) (fun h60 => ?_)
          · -- then of 60
            refine VC.region ?_
            refine VL.q (q_move rfl) (by decide) ?_
            refine VL.q (q_add rfl rfl ⟨by omega, by omega⟩) (by decide) ?_
            refine VL.q (q_assign rfl) (by decide) ?_
            refine VL.to (fun _ _ h => h) ?_
            refine VC.region ?_
            refine VL.q (q_add rfl rfl ⟨by omega, by omega⟩) (by decide) ?_
            refine VL.q (q_move rfl) (by decide) ?_
            refine VL.anyI ((k + 1), (i + 1), (j + 1), decide (z27.op = 1), w0) [0, 1, 4, 5, 6, 7, 23, 24, 25, 9, 10, 11, 8] (fun _ _ h => h) ?_ rfl (by (try dsimp only); exact EntO.out)
            try dsimp only
            exact ⟨minv_step hI hz27 (by rw [if_pos h31, if_neg (by simpa using h33)]; rw [← hs39']; exact bump_set rfl hz44 hw0) (by first | (exfalso; omega) | rw [if_pos (by omega)] | rw [if_neg (by omega)]) (by first | (exfalso; omega) | rw [if_pos (by omega)] | rw [if_neg (by omega)]) rfl, by omega⟩
          · -- else of 60
            refine VC.skip_to (fun _ _ h => h) ?_
            refine VC.region ?_
            refine VL.q (q_add rfl rfl ⟨by omega, by omega⟩) (by decide) ?_
            refine VL.q (q_move rfl) (by decide) ?_
            refine VL.anyI ((k + 1), (i + 1), j, decide (z27.op = 1), w0) [0, 1, 4, 5, 6, 7, 23, 24, 25, 9, 10, 11, 8] (fun _ _ h => h) ?_ rfl (by (try dsimp only); exact EntO.out)
            try dsimp only
            exact ⟨minv_step hI hz27 (by rw [if_pos h31, if_neg (by simpa using h33)]; rw [← hs39']; exact bump_set rfl hz44 hw0) (by first | (exfalso; omega) | rw [if_pos (by omega)] | rw [if_neg (by omega)]) (by first | (exfalso; omega) | rw [if_pos (by omega)] | rw [if_neg (by omega)]) rfl, by omega⟩
        · -- else of 55
          refine VC.skip_to (fun _ _ h => h) ?_
          refine VC.seq ?_
          refine VC.region ?_
          refine VL.q (q_field fa78_0 rfl) (by decide) ?_
          refine VL.q (q_fe one3 rfl rfl) (by decide) ?_
          refine VL.q (q_neq rfl rfl) (by decide) ?_
          refine VL.to (fun _ _ h => h) ?_
          refine VC.cond_ndec rfl (fun h60 => ?_) (fun h60 => ?_)
          · -- then of 60
            refine VC.region ?_
            refine VL.q (q_move rfl) (by decide) ?_
            refine VL.q (q_add rfl rfl ⟨by omega, by omega⟩) (by decide) ?_
            refine VL.q (q_assign rfl) (by decide) ?_
            refine VL.to (fun _ _ h => h) ?_
            refine VC.region ?_
            refine VL.q (q_add rfl rfl ⟨by omega, by omega⟩) (by decide) ?_
            refine VL.q (q_move rfl) (by decide) ?_
            refine VL.anyI ((k + 1), i, (j + 1), decide (z27.op = 1), w0) [0, 1, 4, 5, 6, 7, 23, 24, 25, 9, 10, 11, 8] (fun _ _ h => h) ?_ rfl (by (try dsimp only); exact EntO.out)
            try dsimp only
            exact ⟨minv_step hI hz27 (by rw [if_pos h31, if_neg (by simpa using h33)]; rw [← hs39']; exact bump_set rfl hz44 hw0) (by first | (exfalso; omega) | rw [if_pos (by omega)] | rw [if_neg (by omega)]) (by first | (exfalso; omega) | rw [if_pos (by omega)] | rw [if_neg (by omega)]) rfl, by omega⟩
          · -- else of 60
            refine VC.skip_to (fun _ _ h => h) ?_
            refine VC.region ?_
            refine VL.q (q_add rfl rfl ⟨by omega, by omega⟩) (by decide) ?_
            refine VL.q (q_move rfl) (by decide) ?_
            refine VL.anyI ((k + 1), i, j, decide (z27.op = 1), w0) [0, 1, 4, 5, 6, 7, 23, 24, 25, 9, 10, 11, 8] (fun _ _ h => h) ?_ rfl (by (try dsimp only); exact EntO.out)
            try dsimp only
            exact ⟨minv_step hI hz27 (by rw [if_pos h31, if_neg (by simpa using h33)]; rw [← hs39']; exact bump_set rfl hz44 hw0) (by first | (exfalso; omega) | rw [if_pos (by omega)] | rw [if_neg (by omega)]) (by first | (exfalso; omega) | rw [if_pos (by omega)] | rw [if_neg (by omega)]) rfl, by omega⟩
      · -- else of 33
        refine VC.skip_to (fun _ _ h => h) ?_
        have hon := hI.row (by simpa using h33)
        have hol : 0 < o.l.length := List.length_pos_iff.2 hon
        refine VC.region ?_
        refine VL.q (q_move rfl) (by decide) ?_
        refine VL.q (q_move rfl) (by decide) ?_
        refine VL.q (q_ln (s := o) Try.underlying64 rfl) (by decide) ?_
        refine VL.q (q_sub rfl rfl ⟨by omega, by omega⟩) (by decide) ?_
        obtain ⟨z44, hz44⟩ : ∃ z, o.l[(((o.l.length : Int) - 1)).toNat]? = some z := ⟨_, List.getElem?_eq_getElem (by omega)⟩
        refine VL.q (q_ixo (s := o) Try.underlying64 sz69 rfl rfl (by omega) (by omega)) (by decide) ?_
        refine VL.q (q_field fa69_2 rfl) (by decide) ?_
        have hbd := hI.bd z44 (List.mem_of_getElem? hz44)
        refine VL.q (q_elfo (s := o) one3 rfl hz44 rfl) (by decide) ?_
        refine VL.q (q_add rfl rfl ⟨by omega, by omega⟩) (by decide) ?_
        refine VL.q (q_ixo (s := o) Try.underlying64 sz69 rfl rfl (by omega) (by omega)) (by decide) ?_
        refine VL.q (q_field fa69_2 rfl) (by decide) ?_
        refine VL.storeE (s := o) (T := 69) (j := 2) (vc := [i64 (z44.n + 1)]) (⟨z44.a, z44.b, (z44.n + 1)⟩ : Mat) (by decide) rfl rfl hz44 rfl sz3 rfl rfl (Nat.le_of_ble_eq_true rfl) rfl (fun w1 hw1 haw1 hcw1 hvw1 hbw1 how1 => ?_)
        rw [← hvw1]
        refine VL.to (fun _ _ h => h) ?_
        refine VC.seq ?_
        refine VC.region ?_
        refine VL.q (q_field fa78_0 rfl) (by decide) ?_
        refine VL.q (q_fe one3 rfl rfl) (by decide) ?_
        refine VL.q (q_eql rfl rfl) (by decide) ?_
        refine VL.q (q_assign rfl) (by decide) ?_
        refine VL.to (fun _ _ h => h) ?_
        refine VC.seq ?_
        refine VC.seq ?_
        refine VC.region ?_
        refine VL.q (q_field fa78_0 rfl) (by decide) ?_
        refine VL.q (q_fe one3 rfl rfl) (by decide) ?_
        refine VL.q (q_neq rfl rfl) (by decide) ?_
        refine VL.to (fun _ _ h => h) ?_
        refine VC.cond_ndec rfl (fun h55 => ?_) (fun h55 => ?_)
        · -- then of 55
          refine VC.region ?_
          refine VL.q (q_move rfl) (by decide) ?_
          refine VL.q (q_add rfl rfl ⟨by omega, by omega⟩) (by decide) ?_
          refine VL.q (q_assign rfl) (by decide) ?_
          refine VL.to (fun _ _ h => h) ?_
          refine VC.seq ?_
          refine VC.region ?_
          refine VL.q (q_field fa78_0 rfl) (by decide) ?_
          refine VL.q (q_fe one3 rfl rfl) (by decide) ?_
          refine VL.q (q_neq rfl rfl) (by decide) ?_
          refine VL.to (fun _ _ h => h) ?_
          refine VC.cond_ndec rfl (fun h60 => ?_) (fun h60 => ?_)
          · -- then of 60
            refine VC.region ?_
            refine VL.q (q_move rfl) (by decide) ?_
            refine VL.q (q_add rfl rfl ⟨by omega, by omega⟩) (by decide) ?_
            refine VL.q (q_assign rfl) (by decide) ?_
            refine VL.to (fun _ _ h => h) ?_
            refine VC.region ?_
            refine VL.q (q_add rfl rfl ⟨by omega, by omega⟩) (by decide) ?_
            refine VL.q (q_move rfl) (by decide) ?_
            refine VL.anyI ((k + 1), (i + 1), (j + 1), decide (z27.op = 1), w1) [0, 1, 4, 5, 6, 7, 23, 24, 25, 9, 10, 11, 8] (fun _ _ h => h) ?_ rfl (by (try dsimp only); exact EntO.out)
            try dsimp only
            exact ⟨minv_step hI hz27 (by rw [if_pos h31, if_pos (by simpa using h33)]; exact bump_set rfl hz44 hw1) (by first | (exfalso; omega) | rw [if_pos (by omega)] | rw [if_neg (by omega)]) (by first | (exfalso; omega) | rw [if_pos (by omega)] | rw [if_neg (by omega)]) rfl, by omega⟩
          · -- else of 60
            refine VC.skip_to (fun _ _ h => h) ?_
            refine VC.region ?_
            refine VL.q (q_add rfl rfl ⟨by omega, by omega⟩) (by decide) ?_
            refine VL.q (q_move rfl) (by decide) ?_
            refine VL.anyI ((k + 1), (i + 1), j, decide (z27.op = 1), w1) [0, 1, 4, 5, 6, 7, 23, 24, 25, 9, 10, 11, 8] (fun _ _ h => h) ?_ rfl (by (try dsimp only); exact EntO.out)
            try dsimp only
            exact ⟨minv_step hI hz27 (by rw [if_pos h31, if_pos (by simpa using h33)]; exact bump_set rfl hz44 hw1) (by first | (exfalso; omega) | rw [if_pos (by omega)] | rw [if_neg (by omega)]) (by first | (exfalso; omega) | rw [if_pos (by omega)] | rw [if_neg (by omega)]) rfl, by omega⟩
        · -- else of 55
          refine VC.skip_to (fun _ _ h => h) ?_
          refine VC.seq ?_
          refine VC.region ?_
          refine VL.q (q_field fa78_0 rfl) (by decide) ?_
          refine VL.q (q_fe one3 rfl rfl) (by decide) ?_
          refine VL.q (q_neq rfl rfl) (by decide) ?_
          refine VL.to (fun _ _ h => h) ?_
          refine VC.cond_ndec rfl (fun h60 => ?_) (fun h60 => ?_)
          · -- then of 60
            refine VC.region ?_
            refine VL.q (q_move rfl) (by decide) ?_
            refine VL.q (q_add rfl rfl ⟨by omega, by omega⟩) (by decide) ?_
            refine VL.q (q_assign rfl) (by decide) ?_
            refine VL.to (fun _ _ h => h) ?_
            refine VC.region ?_
            refine VL.q (q_add rfl rfl ⟨by omega, by omega⟩) (by decide) ?_
            refine VL.q (q_move rfl) (by decide) ?_
            refine VL.anyI ((k + 1), i, (j + 1), decide (z27.op = 1), w1) [0, 1, 4, 5, 6, 7, 23, 24, 25, 9, 10, 11, 8] (fun _ _ h => h) ?_ rfl (by (try dsimp only); exact EntO.out)
            try dsimp only
            exact ⟨minv_step hI hz27 (by rw [if_pos h31, if_pos (by simpa using h33)]; exact bump_set rfl hz44 hw1) (by first | (exfalso; omega) | rw [if_pos (by omega)] | rw [if_neg (by omega)]) (by first | (exfalso; omega) | rw [if_pos (by omega)] | rw [if_neg (by omega)]) rfl, by omega⟩
          · -- else of 60
            refine VC.skip_to (fun _ _ h => h) ?_
            refine VC.region ?_
            refine VL.q (q_add rfl rfl ⟨by omega, by omega⟩) (by decide) ?_
            refine VL.q (q_move rfl) (by decide) ?_
            refine VL.anyI ((k + 1), i, j, decide (z27.op = 1), w1) [0, 1, 4, 5, 6, 7, 23, 24, 25, 9, 10, 11, 8] (fun _ _ h => h) ?_ rfl (by (try dsimp only); exact EntO.out)
            try dsimp only
            exact ⟨minv_step hI hz27 (by rw [if_pos h31, if_pos (by simpa using h33)]; exact bump_set rfl hz44 hw1) (by first | (exfalso; omega) | rw [if_pos (by omega)] | rw [if_neg (by omega)]) (by first | (exfalso; omega) | rw [if_pos (by omega)] | rw [if_neg (by omega)]) rfl, by omega⟩
    · -- else of 31
      refine VC.skip_to (fun _ _ h => h) ?_
      refine VC.seq ?_
      refine VC.region ?_
      refine VL.q (q_field fa78_0 rfl) (by decide) ?_
      refine VL.q (q_fe one3 rfl rfl) (by decide) ?_
      refine VL.q (q_eql rfl rfl) (by decide) ?_
      refine VL.q (q_assign rfl) (by decide) ?_
      refine VL.to (fun _ _ h => h) ?_
      refine VC.seq ?_
      refine VC.seq ?_
      refine VC.region ?_
      refine VL.q (q_field fa78_0 rfl) (by decide) ?_
      refine VL.q (q_fe one3 rfl rfl) (by decide) ?_
      refine VL.q (q_neq rfl rfl) (by decide) ?_
      refine VL.to (fun _ _ h => h) ?_
      refine VC.cond_ndec rfl (fun h55 => ?_) (fun h55 => ?_)
      · -- then of 55
        refine VC.region ?_
        refine VL.q (q_move rfl) (by decide) ?_
        refine VL.q (q_add rfl rfl ⟨by omega, by omega⟩) (by decide) ?_
        refine VL.q (q_assign rfl) (by decide) ?_
        refine VL.to (fun _ _ h => h) ?_
        refine VC.seq ?_
        refine VC.region ?_
        refine VL.q (q_field fa78_0 rfl) (by decide) ?_
        refine VL.q (q_fe one3 rfl rfl) (by decide) ?_
        refine VL.q (q_neq rfl rfl) (by decide) ?_
        refine VL.to (fun _ _ h => h) ?_
        refine VC.cond_ndec rfl (fun h60 => ?_) (fun h60 => ?_)
        · -- then of 60
          refine VC.region ?_
          refine VL.q (q_move rfl) (by decide) ?_
          refine VL.q (q_add rfl rfl ⟨by omega, by omega⟩) (by decide) ?_
          refine VL.q (q_assign rfl) (by decide) ?_
          refine VL.to (fun _ _ h => h) ?_
          refine VC.region ?_
          refine VL.q (q_add rfl rfl ⟨by omega, by omega⟩) (by decide) ?_
          refine VL.q (q_move rfl) (by decide) ?_
          refine VL.anyI ((k + 1), (i + 1), (j + 1), decide (z27.op = 1), o) [0, 1, 4, 5, 6, 7, 23, 24, 25, 9, 10, 11, 8] (fun _ _ h => h) ?_ rfl (by (try dsimp only); exact EntO.out)
          try dsimp only
          exact ⟨minv_step hI hz27 (by rw [if_neg h31]) (by first | (exfalso; omega) | rw [if_pos (by omega)] | rw [if_neg (by omega)]) (by first | (exfalso; omega) | rw [if_pos (by omega)] | rw [if_neg (by omega)]) rfl, by omega⟩
        · -- else of 60
          refine VC.skip_to (fun _ _ h => h) ?_
          refine VC.region ?_
          refine VL.q (q_add rfl rfl ⟨by omega, by omega⟩) (by decide) ?_
          refine VL.q (q_move rfl) (by decide) ?_
          refine VL.anyI ((k + 1), (i + 1), j, decide (z27.op = 1), o) [0, 1, 4, 5, 6, 7, 23, 24, 25, 9, 10, 11, 8] (fun _ _ h => h) ?_ rfl (by (try dsimp only); exact EntO.out)
          try dsimp only
          exact ⟨minv_step hI hz27 (by rw [if_neg h31]) (by first | (exfalso; omega) | rw [if_pos (by omega)] | rw [if_neg (by omega)]) (by first | (exfalso; omega) | rw [if_pos (by omega)] | rw [if_neg (by omega)]) rfl, by omega⟩
      · -- else of 55
        refine VC.skip_to (fun _ _ h => h) ?_
        refine VC.seq ?_
        refine VC.region ?_
        refine VL.q (q_field fa78_0 rfl) (by decide) ?_
        refine VL.q (q_fe one3 rfl rfl) (by decide) ?_
        refine VL.q (q_neq rfl rfl) (by decide) ?_
        refine VL.to (fun _ _ h => h) ?_
        refine VC.cond_ndec rfl (fun h60 => ?_) (fun h60 => ?_)
        · -- then of 60
          refine VC.region ?_
          refine VL.q (q_move rfl) (by decide) ?_
          refine VL.q (q_add rfl rfl ⟨by omega, by omega⟩) (by decide) ?_
          refine VL.q (q_assign rfl) (by decide) ?_
          refine VL.to (fun _ _ h => h) ?_
          refine VC.region ?_
          refine VL.q (q_add rfl rfl ⟨by omega, by omega⟩) (by decide) ?_
          refine VL.q (q_move rfl) (by decide) ?_
          refine VL.anyI ((k + 1), i, (j + 1), decide (z27.op = 1), o) [0, 1, 4, 5, 6, 7, 23, 24, 25, 9, 10, 11, 8] (fun _ _ h => h) ?_ rfl (by (try dsimp only); exact EntO.out)
          try dsimp only
          exact ⟨minv_step hI hz27 (by rw [if_neg h31]) (by first | (exfalso; omega) | rw [if_pos (by omega)] | rw [if_neg (by omega)]) (by first | (exfalso; omega) | rw [if_pos (by omega)] | rw [if_neg (by omega)]) rfl, by omega⟩
        · -- else of 60
          refine VC.skip_to (fun _ _ h => h) ?_
          refine VC.region ?_
          refine VL.q (q_add rfl rfl ⟨by omega, by omega⟩) (by decide) ?_
          refine VL.q (q_move rfl) (by decide) ?_
          refine VL.anyI ((k + 1), i, j, decide (z27.op = 1), o) [0, 1, 4, 5, 6, 7, 23, 24, 25, 9, 10, 11, 8] (fun _ _ h => h) ?_ rfl (by (try dsimp only); exact EntO.out)
          try dsimp only
          exact ⟨minv_step hI hz27 (by rw [if_neg h31]) (by first | (exfalso; omega) | rw [if_pos (by omega)] | rw [if_neg (by omega)]) (by first | (exfalso; omega) | rw [if_pos (by omega)] | rw [if_neg (by omega)]) rfl, by omega⟩
  · -- else of 26
    refine VC.exit_to (fun _ _ h => h) ?_
    refine VC.seq ?_
    refine VC.shut o 69 (fun _ _ _ _ => trivial) ?_
    refine VC.region ?_
    refine VL.q (q_move rfl) (by decide) ?_
    refine VL.callF (clipM_ct o) rfl (by decide) ?_
    rintro s65 hs65
    refine VL.q (q_assign rfl) (by decide) ?_
    refine VL.q (q_assign rfl) (by decide) ?_
    refine VL.to (fun _ _ h => h) ?_
    exact VC.ret (fin2I (.inr rfl) rfl rfl rfl s65 rfl ((by rw [hs65, ← hl, ← hI.eq, List.drop_eq_nil_of_le (by omega)]; rfl)) (fun _ _ => trivial))

end Go.Proofs.Ytmkncbldffncpaa
end

section
/-
  DERIVED: THE SHELF's CONTRACTS AT THIS DUMP, IN PLAIN WORDS (tools/lay-plain.mjs out of 'TryShelf.lean', which tools/lay-shelf.mjs wrote): THE SAME DECLARATIONS UNDER THE SAME NAMES: 'import', 'namespace', 'open', 'def', 'theorem' AND NOTHING ELSE: no command of the shelf's: FOR A HAND-IN. Each laying: the table of numbers ('.._ren') and one theorem, a field a fact of the dump's own or the kernel's comparison; each contract: ONE APPLICATION.
-/
namespace Go.Proofs
open Go.Shelf
def Try.lays169_ren : Go.Shelf.Ren := ⟨fun | 169 => 20 | n => n, fun | 70 => 42 | 9 => 9 | 0 => 0 | 72 => 44 | 37 => 40 | 127 => 63 | 3 => 3 | 5 => 5 | n => n, fun | n => n⟩
theorem Try.lays169 : Go.Proofs.Lays.n169 Try.prog Try.lays169_ren := {
  mixed := by kernel_rfl
  f169 := Try.func20.trans (congrArg some (by kernel_rfl))
  t0 := Try.underlying0
  a0 := Try.isAgg0
  z0 := Try.sizeOf0
  v0 := Try.zeroValue0
  t3 := Try.underlying3
  a3 := Try.isAgg3
  z3 := Try.sizeOf3
  v3 := Try.zeroValue3
  t9 := Try.underlying9
  a9 := Try.isAgg9
  z9 := Try.sizeOf9
  v9 := Try.zeroValue9
  t37 := Try.underlying40
  a37 := Try.isAgg40
  z37 := Try.sizeOf40
  v37 := Try.zeroValue40
  t70 := Try.underlying42
  a70 := Try.isAgg42
  z70 := Try.sizeOf42
  v70 := Try.zeroValue42
  t72 := Try.underlying44
  a72 := Try.isAgg44
  z72 := Try.sizeOf44
  v72 := Try.zeroValue44
  t127 := Try.underlying63
  a127 := Try.isAgg63
  z127 := Try.sizeOf63
  v127 := Try.zeroValue63 }
theorem Try.Builder_Extra_169 : Builder.Extra Try.prog Try.lays169_ren := {
  sizeBuilder := by kernel_rfl
  liesBuilder := by kernel_rfl
  t5 := Try.underlying5
  a5 := Try.isAgg5
  z5 := Try.sizeOf5
  v5 := Try.zeroValue5
  infoByte := by kernel_rfl
  cellsByte := by kernel_rfl
  sizeByte := by kernel_rfl
  neB5 := by decide }
open Go.RowKit in
/-- (*strings.Builder).String: "String returns the accumulated string.": OF A BUILDER THAT HOLDS AT LEAST ONE BYTE. ✋ THE MODEL FREEZES THOSE BYTES IN THE BUFFER (unsafe.String): a later write INTO them ends the model's run without an answer; a later append BEHIND them goes on. The statement's order of evaluation is drawn: one draw. (LAID: no walk: one application.) -/
theorem Try.Builder_String (B b : Nat) (l : List UInt8) (w : World) (h : Lib.IsBuilder 44 5 B b (Lib.byteCells l) w) (h0 : l ≠ []) :
    Calls Try.prog 20 #[.pointer (some ⟨b, 0, none⟩)] w fun e w' => e = .returned (.string ⟨l.toArray⟩) ∧ Below B w w' := Any.Builder_String Try.lays169 Try.Builder_Extra_169 B b l w h h0
open Go.RowKit in
/-- (*strings.Builder).String OF A BUILDER THAT HOLDS NO BYTE: the empty string. (Its buffer is nil, or a row of which it has taken nothing yet; where that row has NO capacity the model lays one new block for unsafe.SliceData's 'some address'.) One draw. (LAID: no walk: one application.) -/
theorem Try.Builder_String_empty (B b : Nat) (w : World) (h : Lib.IsBuilder 44 5 B b [] w) (hBw : B ≤ w.heap.size) :
    Calls Try.prog 20 #[.pointer (some ⟨b, 0, none⟩)] w fun e w' => e = .returned (.string ⟨#[]⟩) ∧ Below B w w' := Any.Builder_String_empty Try.lays169 Try.Builder_Extra_169 B b w h hBw
open Go.RowKit in
/-- (*strings.Builder).String: "String returns the accumulated string.": WHATEVER THE BUILDER HOLDS. (LAID: no walk: one application.) -/
theorem Try.Builder_String_any (B b : Nat) (l : List UInt8) (w : World) (h : Lib.IsBuilder 44 5 B b (Lib.byteCells l) w) (hBw : B ≤ w.heap.size) :
    Calls Try.prog 20 #[.pointer (some ⟨b, 0, none⟩)] w fun e w' => e = .returned (.string ⟨l.toArray⟩) ∧ Below B w w' := Any.Builder_String_any Try.lays169 Try.Builder_Extra_169 B b l w h hBw
def Try.lays241_ren : Go.Shelf.Ren := ⟨fun | 241 => 53 | 277 => 63 | n => n, fun | 70 => 42 | 3 => 3 | 0 => 0 | 72 => 44 | 37 => 40 | 5 => 5 | n => n, fun | n => n⟩
theorem Try.lays241 : Go.Proofs.Lays.n241 Try.prog Try.lays241_ren := {
  mixed := by kernel_rfl
  f241 := Try.func53.trans (congrArg some (by kernel_rfl))
  f277 := Try.func63.trans (congrArg some (by kernel_rfl))
  t0 := Try.underlying0
  a0 := Try.isAgg0
  z0 := Try.sizeOf0
  v0 := Try.zeroValue0
  t3 := Try.underlying3
  a3 := Try.isAgg3
  z3 := Try.sizeOf3
  v3 := Try.zeroValue3
  t37 := Try.underlying40
  a37 := Try.isAgg40
  z37 := Try.sizeOf40
  v37 := Try.zeroValue40
  t70 := Try.underlying42
  a70 := Try.isAgg42
  z70 := Try.sizeOf42
  v70 := Try.zeroValue42
  t72 := Try.underlying44
  a72 := Try.isAgg44
  z72 := Try.sizeOf44
  v72 := Try.zeroValue44 }
theorem Try.Builder_Extra_241 : Builder.Extra Try.prog Try.lays241_ren := {
  sizeBuilder := by kernel_rfl
  liesBuilder := by kernel_rfl
  t5 := Try.underlying5
  a5 := Try.isAgg5
  z5 := Try.sizeOf5
  v5 := Try.zeroValue5
  infoByte := by kernel_rfl
  cellsByte := by kernel_rfl
  sizeByte := by kernel_rfl
  neB5 := by decide }
open Go.RowKit in
/-- (*strings.Builder).grow (no doc but "grow copies the buffer to a new, larger buffer so that there are at least n bytes of capacity beyond len(b.buf)."): AT A BUILDER WITHOUT A BUFFER: a new row of whatever bytes for its buffer, none of them its own yet. Three draws. (LAID: no walk: one application.) -/
theorem Try.Builder_grow_fresh (B b n : Nat) (w : World) (hB : B ≤ b) (hbk : w.heap[b]? = some (.cells #[.pointer (some ⟨b, 0, none⟩), .slice none 0 0] 44 (0, 0))) (hBw : B ≤ w.heap.size) (hn : n ≤ 281474976710656) :
    Calls Try.prog 53 #[.pointer (some ⟨b, 0, none⟩), .int .i64 n] w fun e w' => e = .returned (.tuple #[]) ∧ (Lib.BuilderAt 44 5 B b (.pointer (some ⟨b, 0, none⟩)) [] w' ∧ Below B w w') := Any.Builder_grow_fresh Try.lays241 Try.Builder_Extra_241 B b n w hB hbk hBw hn
def Try.lays165_ren : Go.Shelf.Ren := ⟨fun | 165 => 42 | 240 => 32 | 241 => 53 | 276 => 40 | 277 => 63 | n => n, fun | 70 => 42 | 3 => 3 | 0 => 0 | 4 => 4 | 9 => 9 | 20 => 20 | 72 => 44 | 37 => 40 | 164 => 71 | 5 => 5 | n => n, fun | n => n⟩
theorem Try.lays165 : Go.Proofs.Lays.n165 Try.prog Try.lays165_ren := {
  mixed := by kernel_rfl
  f165 := Try.func42.trans (congrArg some (by kernel_rfl))
  f240 := Try.func32.trans (congrArg some (by kernel_rfl))
  f241 := Try.func53.trans (congrArg some (by kernel_rfl))
  f276 := Try.func40.trans (congrArg some (by kernel_rfl))
  f277 := Try.func63.trans (congrArg some (by kernel_rfl))
  t0 := Try.underlying0
  a0 := Try.isAgg0
  z0 := Try.sizeOf0
  v0 := Try.zeroValue0
  t3 := Try.underlying3
  a3 := Try.isAgg3
  z3 := Try.sizeOf3
  v3 := Try.zeroValue3
  t4 := Try.underlying4
  a4 := Try.isAgg4
  z4 := Try.sizeOf4
  v4 := Try.zeroValue4
  t9 := Try.underlying9
  a9 := Try.isAgg9
  z9 := Try.sizeOf9
  v9 := Try.zeroValue9
  t20 := Try.underlying20
  a20 := Try.isAgg20
  z20 := Try.sizeOf20
  v20 := Try.zeroValue20
  t37 := Try.underlying40
  a37 := Try.isAgg40
  z37 := Try.sizeOf40
  v37 := Try.zeroValue40
  t70 := Try.underlying42
  a70 := Try.isAgg42
  z70 := Try.sizeOf42
  v70 := Try.zeroValue42
  t72 := Try.underlying44
  a72 := Try.isAgg44
  z72 := Try.sizeOf44
  v72 := Try.zeroValue44
  t164 := Try.underlying71
  a164 := Try.isAgg71
  z164 := Try.sizeOf71
  v164 := Try.zeroValue71 }
theorem Try.Builder_Extra_165 : Builder.Extra Try.prog Try.lays165_ren := {
  sizeBuilder := by kernel_rfl
  liesBuilder := by kernel_rfl
  t5 := Try.underlying5
  a5 := Try.isAgg5
  z5 := Try.sizeOf5
  v5 := Try.zeroValue5
  infoByte := by kernel_rfl
  cellsByte := by kernel_rfl
  sizeByte := by kernel_rfl
  neB5 := by decide }
open Go.RowKit in
/-- (*strings.Builder).Grow AT A BUILDER THAT HAS NOT BEEN WRITTEN ('var b strings.Builder; b.Grow(n)'): "Grow grows b's capacity, if necessary, to guarantee space for another n bytes.": it holds no byte behind it as before it. (LAID: no walk: one application.) -/
theorem Try.Builder_Grow_fresh (B b n : Nat) (w : World) (hB : B ≤ b) (hbk : w.heap[b]? = some (.cells #[.pointer none, .slice none 0 0] 44 (0, 0))) (hBw : B ≤ w.heap.size) (hn : n ≤ 281474976710656) :
    Calls Try.prog 42 #[.pointer (some ⟨b, 0, none⟩), .int .i64 n] w fun e w' => e = .returned (.tuple #[]) ∧ (Lib.BuilderAt 44 5 B b (.pointer (some ⟨b, 0, none⟩)) [] w' ∧ Below B w w') := Any.Builder_Grow_fresh Try.lays165 Try.Builder_Extra_165 B b n w hB hbk hBw hn
def Try.lays156_ren : Go.Shelf.Ren := ⟨fun | 156 => 34 | 165 => 42 | 166 => 17 | 169 => 20 | 240 => 32 | 241 => 53 | 276 => 40 | 277 => 63 | n => n, fun | 31 => 28 | 9 => 9 | 3 => 3 | 4 => 4 | 0 => 0 | 20 => 20 | 72 => 44 | 76 => 45 | 70 => 42 | 37 => 40 | 75 => 24 | 127 => 63 | 164 => 71 | 5 => 5 | 80 => 48 | n => n, fun | n => n⟩
theorem Try.lays156 : Go.Proofs.Lays.n156 Try.prog Try.lays156_ren := {
  mixed := by kernel_rfl
  f156 := Try.func34.trans (congrArg some (by kernel_rfl))
  f165 := Try.func42.trans (congrArg some (by kernel_rfl))
  f166 := Try.func17.trans (congrArg some (by kernel_rfl))
  f169 := Try.func20.trans (congrArg some (by kernel_rfl))
  f240 := Try.func32.trans (congrArg some (by kernel_rfl))
  f241 := Try.func53.trans (congrArg some (by kernel_rfl))
  f276 := Try.func40.trans (congrArg some (by kernel_rfl))
  f277 := Try.func63.trans (congrArg some (by kernel_rfl))
  t0 := Try.underlying0
  a0 := Try.isAgg0
  z0 := Try.sizeOf0
  v0 := Try.zeroValue0
  t3 := Try.underlying3
  a3 := Try.isAgg3
  z3 := Try.sizeOf3
  v3 := Try.zeroValue3
  t4 := Try.underlying4
  a4 := Try.isAgg4
  z4 := Try.sizeOf4
  v4 := Try.zeroValue4
  t9 := Try.underlying9
  a9 := Try.isAgg9
  z9 := Try.sizeOf9
  v9 := Try.zeroValue9
  t20 := Try.underlying20
  a20 := Try.isAgg20
  z20 := Try.sizeOf20
  v20 := Try.zeroValue20
  t31 := Try.underlying28
  a31 := Try.isAgg28
  z31 := Try.sizeOf28
  v31 := Try.zeroValue28
  t37 := Try.underlying40
  a37 := Try.isAgg40
  z37 := Try.sizeOf40
  v37 := Try.zeroValue40
  t70 := Try.underlying42
  a70 := Try.isAgg42
  z70 := Try.sizeOf42
  v70 := Try.zeroValue42
  t72 := Try.underlying44
  a72 := Try.isAgg44
  z72 := Try.sizeOf44
  v72 := Try.zeroValue44
  t75 := Try.underlying24
  a75 := Try.isAgg24
  z75 := Try.sizeOf24
  v75 := Try.zeroValue24
  t76 := Try.underlying45
  a76 := Try.isAgg45
  z76 := Try.sizeOf45
  v76 := Try.zeroValue45
  t127 := Try.underlying63
  a127 := Try.isAgg63
  z127 := Try.sizeOf63
  v127 := Try.zeroValue63
  t164 := Try.underlying71
  a164 := Try.isAgg71
  z164 := Try.sizeOf71
  v164 := Try.zeroValue71 }
theorem Try.Builder_Extra_156 : Builder.Extra Try.prog Try.lays156_ren := {
  sizeBuilder := by kernel_rfl
  liesBuilder := by kernel_rfl
  t5 := Try.underlying5
  a5 := Try.isAgg5
  z5 := Try.sizeOf5
  v5 := Try.zeroValue5
  infoByte := by kernel_rfl
  cellsByte := by kernel_rfl
  sizeByte := by kernel_rfl
  neB5 := by decide }
open Go.RowKit in
/-- No element: the empty string; the world is as it was. (Whatever the slice's address and capacity: a nil slice too.) (LAID: no walk: one application.) -/
theorem Try.strings_Join_none (a : Option Addr) (c : Nat) (sep : ByteArray) (w : World) :
    Calls Try.prog 34 #[.slice a 0 c, .string sep] w fun e w' => e = .returned (.string ⟨#[]⟩) ∧ w' = w := Any.strings_Join_none Try.lays156 Try.Builder_Extra_156 a c sep w
open Go.RowKit in
/-- strings.Join: "Join concatenates the elements of its first argument to create a single string. The separator string sep is placed between elements in the resulting string.": HOWEVER MANY ELEMENTS. Below the heap's end the world is as it was. (LAID: no walk: one application.) -/
theorem Try.strings_Join (bk o c : Nat) (xs : List ByteArray) (sep : ByteArray) (w : World) (hcells : ∀ (j : Nat) x, xs[j]? = some x → w.cell? ⟨bk, o + j, none⟩ = some (.string x)) (hbk : bk < w.heap.size) (hN : xs.length ≤ 140737488355328) (hcap : xs.length ≤ c) (hlen : (Lib.join (xs.map (·.data.toList)) sep.data.toList).length ≤ 140737488355328) :
    Calls Try.prog 34 #[.slice (some ⟨bk, o, none⟩) xs.length c, .string sep] w fun e w' => e = .returned (.string ⟨(Lib.join (xs.map (·.data.toList)) sep.data.toList).toArray⟩) ∧ Below w.heap.size w w' := Any.strings_Join Try.lays156 Try.Builder_Extra_156 bk o c xs sep w hcells hbk hN hcap hlen
open Go.RowKit in
/-- (*strings.Builder).String: "String returns the accumulated string.": OF A BUILDER THAT HOLDS AT LEAST ONE BYTE. ✋ THE MODEL FREEZES THOSE BYTES IN THE BUFFER (unsafe.String): a later write INTO them ends the model's run without an answer; a later append BEHIND them goes on. The statement's order of evaluation is drawn: one draw. THE FORM '_f': IT SAYS BESIDES THAT THE BUILDER IS A BUILDER STILL ('Lib.IsBuilderF', the same bytes): SO IT CAN BE WRITTEN ON: 'b.WriteString(b.String()[:k])'. (LAID: no walk: one application.) -/
theorem Try.Builder_String_f (B b : Nat) (l : List UInt8) (w : World) (h : Lib.IsBuilderF 44 5 B b (Lib.byteCells l) w) (h0 : l ≠ []) :
    Calls Try.prog 20 #[.pointer (some ⟨b, 0, none⟩)] w fun e w' => e = .returned (.string ⟨l.toArray⟩) ∧ (Lib.IsBuilderF 44 5 B b (Lib.byteCells l) w' ∧ Below B w w') := Any.Builder_String_f Try.lays169 Try.Builder_Extra_169 B b l w h h0
open Go.RowKit in
/-- (*strings.Builder).String OF A BUILDER THAT HOLDS NO BYTE: the empty string; THE FORM '_f': a builder still. (LAID: no walk: one application.) -/
theorem Try.Builder_String_empty_f (B b : Nat) (w : World) (h : Lib.IsBuilderF 44 5 B b [] w) (hBw : B ≤ w.heap.size) :
    Calls Try.prog 20 #[.pointer (some ⟨b, 0, none⟩)] w fun e w' => e = .returned (.string ⟨#[]⟩) ∧ (Lib.IsBuilderF 44 5 B b [] w' ∧ Below B w w') := Any.Builder_String_empty_f Try.lays169 Try.Builder_Extra_169 B b w h hBw
open Go.RowKit in
/-- (*strings.Builder).String: "String returns the accumulated string.": WHATEVER THE BUILDER HOLDS; THE FORM '_f': OF A BUILDER THAT MAY HAVE BEEN READ BEFORE; AND IT IS A BUILDER STILL, holding the same bytes: it can be written on. (LAID: no walk: one application.) -/
theorem Try.Builder_String_any_f (B b : Nat) (l : List UInt8) (w : World) (h : Lib.IsBuilderF 44 5 B b (Lib.byteCells l) w) (hBw : B ≤ w.heap.size) :
    Calls Try.prog 20 #[.pointer (some ⟨b, 0, none⟩)] w fun e w' => e = .returned (.string ⟨l.toArray⟩) ∧ (Lib.IsBuilderF 44 5 B b (Lib.byteCells l) w' ∧ Below B w w') := Any.Builder_String_any_f Try.lays169 Try.Builder_Extra_169 B b l w h hBw
open Go.RowKit in
/-- (*strings.Builder).String: "String returns the accumulated string.": OF A BUILDER THAT HOLDS AT LEAST ONE BYTE. ✋ THE MODEL FREEZES THOSE BYTES IN THE BUFFER (unsafe.String): a later write INTO them ends the model's run without an answer; a later append BEHIND them goes on. The statement's order of evaluation is drawn: one draw. THE FORM '_k': OVER 'Lib.IsBuilderF' (a builder that 'String()' may have read), AND WITH THE FRAME THAT REACHES ABOVE THE BUILDER: 'Lib.OthersKept': every block that is not b and is no row of uint8's stands as it stood: the iterator of a range among them. (LAID: no walk: one application.) -/
theorem Try.Builder_String_k (B b : Nat) (l : List UInt8) (w : World) (h : Lib.IsBuilderF 44 5 B b (Lib.byteCells l) w) (h0 : l ≠ []) :
    Calls Try.prog 20 #[.pointer (some ⟨b, 0, none⟩)] w fun e w' => e = .returned (.string ⟨l.toArray⟩) ∧ (Lib.IsBuilderF 44 5 B b (Lib.byteCells l) w' ∧ Below B w w' ∧ Lib.OthersKept 5 (some b) w w') := Any.Builder_String_k Try.lays169 Try.Builder_Extra_169 B b l w h h0
open Go.RowKit in
/-- (*strings.Builder).String OF A BUILDER THAT HOLDS NO BYTE: the empty string; THE FORM '_k': OVER 'Lib.IsBuilderF' (a builder that 'String()' may have read), AND WITH THE FRAME THAT REACHES ABOVE THE BUILDER: 'Lib.OthersKept': every block that is not b and is no row of uint8's stands as it stood: the iterator of a range among them. (LAID: no walk: one application.) -/
theorem Try.Builder_String_empty_k (B b : Nat) (w : World) (h : Lib.IsBuilderF 44 5 B b [] w) (hBw : B ≤ w.heap.size) :
    Calls Try.prog 20 #[.pointer (some ⟨b, 0, none⟩)] w fun e w' => e = .returned (.string ⟨#[]⟩) ∧ (Lib.IsBuilderF 44 5 B b [] w' ∧ Below B w w' ∧ Lib.OthersKept 5 (some b) w w') := Any.Builder_String_empty_k Try.lays169 Try.Builder_Extra_169 B b w h hBw
open Go.RowKit in
/-- (*strings.Builder).String: "String returns the accumulated string.": WHATEVER THE BUILDER HOLDS; THE FORM '_k': OVER 'Lib.IsBuilderF' (a builder that 'String()' may have read), AND WITH THE FRAME THAT REACHES ABOVE THE BUILDER: 'Lib.OthersKept': every block that is not b and is no row of uint8's stands as it stood: the iterator of a range among them. (LAID: no walk: one application.) -/
theorem Try.Builder_String_any_k (B b : Nat) (l : List UInt8) (w : World) (h : Lib.IsBuilderF 44 5 B b (Lib.byteCells l) w) (hBw : B ≤ w.heap.size) :
    Calls Try.prog 20 #[.pointer (some ⟨b, 0, none⟩)] w fun e w' => e = .returned (.string ⟨l.toArray⟩) ∧ (Lib.IsBuilderF 44 5 B b (Lib.byteCells l) w' ∧ Below B w w' ∧ Lib.OthersKept 5 (some b) w w') := Any.Builder_String_any_k Try.lays169 Try.Builder_Extra_169 B b l w h hBw
open Go.RowKit in
/-- (*strings.Builder).grow (no doc but "grow copies the buffer to a new, larger buffer so that there are at least n bytes of capacity beyond len(b.buf)."): AT A BUILDER WITHOUT A BUFFER: a new row of whatever bytes for its buffer, none of them its own yet. Three draws. (LAID: no walk: one application.) -/
theorem Try.Builder_grow_fresh_cap (B b n : Nat) (w : World) (hB : B ≤ b) (hbk : w.heap[b]? = some (.cells #[.pointer (some ⟨b, 0, none⟩), .slice none 0 0] 44 (0, 0))) (hBw : B ≤ w.heap.size) (hn : n ≤ 281474976710656) :
    Calls Try.prog 53 #[.pointer (some ⟨b, 0, none⟩), .int .i64 n] w fun e w' => e = .returned (.tuple #[]) ∧ (Lib.BuilderAt 44 5 B b (.pointer (some ⟨b, 0, none⟩)) [] w' ∧ Below B w w') ∧ ∃ p cap, w'.cell? ⟨b, 1, none⟩ = some (.slice p 0 cap) ∧ n ≤ cap := Any.Builder_grow_fresh_cap Try.lays241 Try.Builder_Extra_241 B b n w hB hbk hBw hn
open Go.RowKit in
/-- (*strings.Builder).Grow AT A BUILDER THAT HAS NOT BEEN WRITTEN ('var b strings.Builder; b.Grow(n)'): "Grow grows b's capacity, if necessary, to guarantee space for another n bytes.": it holds no byte behind it as before it. (LAID: no walk: one application.) -/
theorem Try.Builder_Grow_fresh_cap (B b n : Nat) (w : World) (hB : B ≤ b) (hbk : w.heap[b]? = some (.cells #[.pointer none, .slice none 0 0] 44 (0, 0))) (hBw : B ≤ w.heap.size) (hn : n ≤ 281474976710656) :
    Calls Try.prog 42 #[.pointer (some ⟨b, 0, none⟩), .int .i64 n] w fun e w' => e = .returned (.tuple #[]) ∧ (Lib.BuilderAt 44 5 B b (.pointer (some ⟨b, 0, none⟩)) [] w' ∧ Below B w w') ∧ ∃ p cap, w'.cell? ⟨b, 1, none⟩ = some (.slice p 0 cap) ∧ n ≤ cap := Any.Builder_Grow_fresh_cap Try.lays165 Try.Builder_Extra_165 B b n w hB hbk hBw hn
def Try.lays217_ren : Go.Shelf.Ren := ⟨fun | 217 => 48 | 266 => 60 | n => n, fun | 9 => 9 | 5 => 5 | 3 => 3 | n => n, fun | n => n⟩
theorem Try.lays217 : Go.Proofs.Lays.n217 Try.prog Try.lays217_ren := {
  mixed := by kernel_rfl
  f217 := Try.func48.trans (congrArg some (by kernel_rfl))
  f266 := Try.func60.trans (congrArg some (by kernel_rfl))
  t3 := Try.underlying3
  a3 := Try.isAgg3
  z3 := Try.sizeOf3
  v3 := Try.zeroValue3
  t5 := Try.underlying5
  a5 := Try.isAgg5
  z5 := Try.sizeOf5
  v5 := Try.zeroValue5
  t9 := Try.underlying9
  a9 := Try.isAgg9
  z9 := Try.sizeOf9
  v9 := Try.zeroValue9 }
open Go.RowKit Go.Lib in
/-- internal/stringslite.IndexByte (what strings.IndexByte calls): IT RETURNS 'Lib.indexByte s c'; the world is as it was. (LAID: no walk: one application.) -/
theorem Try.stringslite_IndexByte (s : ByteArray) (c : Int) (w : World) :
    Calls Try.prog 48 #[.string s, .int .u8 c] w fun e w' => e = .returned (.int .i64 (Lib.indexByte s.data.toList c.toNat.toUInt8)) ∧ w' = w := Any.stringslite_IndexByte Try.lays217 s c w
def Try.lays224_ren : Go.Shelf.Ren := ⟨fun | 224 => 50 | n => n, fun | 3 => 3 | n => n, fun | n => n⟩
theorem Try.lays224 : Go.Proofs.Lays.n224 Try.prog Try.lays224_ren := {
  mixed := by kernel_rfl
  f224 := Try.func50.trans (congrArg some (by kernel_rfl))
  t3 := Try.underlying3
  a3 := Try.isAgg3
  z3 := Try.sizeOf3
  v3 := Try.zeroValue3 }
open Go.RowKit Go.Lib in
/-- internal/bytealg.Cutover: "Cutover reports the number of failures of IndexByte we should tolerate before switching over to Index. n is the number of bytes processed so far.": on amd64: (n + 16) / 8. (LAID: no walk: one application.) -/
theorem Try.bytealg_Cutover (n : Int) (h0 : 0 ≤ n) (h1 : n < 4611686018427387904) (w : World) :
    Calls Try.prog 50 #[.int .i64 n] w fun e w' => e = .returned (.int .i64 ((n + 16) / 8)) ∧ w' = w := Any.bytealg_Cutover Try.lays224 n h0 h1 w
def Try.lays314_ren : Go.Shelf.Ren := ⟨fun | 314 => 61 | n => n, fun | 9 => 9 | 51 => 90 | 3 => 3 | 4 => 4 | 5 => 5 | 46 => 80 | n => n, fun | n => n⟩
theorem Try.lays314 : Go.Proofs.Lays.n314 Try.prog Try.lays314_ren := {
  mixed := by kernel_rfl
  f314 := Try.func61.trans (congrArg some (by kernel_rfl))
  t3 := Try.underlying3
  a3 := Try.isAgg3
  z3 := Try.sizeOf3
  v3 := Try.zeroValue3
  t4 := Try.underlying4
  a4 := Try.isAgg4
  z4 := Try.sizeOf4
  v4 := Try.zeroValue4
  t5 := Try.underlying5
  a5 := Try.isAgg5
  z5 := Try.sizeOf5
  v5 := Try.zeroValue5
  t9 := Try.underlying9
  a9 := Try.isAgg9
  z9 := Try.sizeOf9
  v9 := Try.zeroValue9
  t46 := Try.underlying80
  a46 := Try.isAgg80
  z46 := Try.sizeOf80
  v46 := Try.zeroValue80
  t51 := Try.underlying90
  a51 := Try.isAgg90
  z51 := Try.sizeOf90
  v51 := Try.zeroValue90 }
open Go.RowKit Go.Lib in
/-- hashStr: "returns the hash and the appropriate multiplicative factor for use in Rabin-Karp algorithm": THE HASH OF ALL OF sep, AND 16777619 ^ len(sep), both in uint32. (LAID: no walk: one application.) -/
theorem Try.bytealg_hashStr (sep : ByteArray) (hs : sep.size < 4294967281) (w : World) :
    Calls Try.prog 61 #[.string sep] w fun e w' => e = .returned (.tuple #[.int .u32 (RK.H sep.data.toList % 4294967296), .int .u32 (16777619 ^ sep.size % 4294967296)]) ∧ w' = w := Any.bytealg_hashStr Try.lays314 sep hs w
def Try.lays267_ren : Go.Shelf.Ren := ⟨fun | 267 => 51 | 314 => 61 | n => n, fun | 9 => 9 | 3 => 3 | 146 => 91 | 51 => 90 | 4 => 4 | 5 => 5 | 46 => 80 | n => n, fun | n => n⟩
theorem Try.lays267 : Go.Proofs.Lays.n267 Try.prog Try.lays267_ren := {
  mixed := by kernel_rfl
  f267 := Try.func51.trans (congrArg some (by kernel_rfl))
  f314 := Try.func61.trans (congrArg some (by kernel_rfl))
  t3 := Try.underlying3
  a3 := Try.isAgg3
  z3 := Try.sizeOf3
  v3 := Try.zeroValue3
  t4 := Try.underlying4
  a4 := Try.isAgg4
  z4 := Try.sizeOf4
  v4 := Try.zeroValue4
  t5 := Try.underlying5
  a5 := Try.isAgg5
  z5 := Try.sizeOf5
  v5 := Try.zeroValue5
  t9 := Try.underlying9
  a9 := Try.isAgg9
  z9 := Try.sizeOf9
  v9 := Try.zeroValue9
  t46 := Try.underlying80
  a46 := Try.isAgg80
  z46 := Try.sizeOf80
  v46 := Try.zeroValue80
  t51 := Try.underlying90
  a51 := Try.isAgg90
  z51 := Try.sizeOf90
  v51 := Try.zeroValue90
  t146 := Try.underlying91
  a146 := Try.isAgg91
  z146 := Try.sizeOf91
  v146 := Try.zeroValue91 }
open Go.RowKit Go.Lib in
theorem Try.bytealg_IndexRabinKarp (s sep : ByteArray) (h1 : 1 ≤ sep.size) (h2 : sep.size ≤ s.size) (hs : s.size < 4294967281) (w : World) :
    Calls Try.prog 51 #[.string s, .string sep] w fun e w' => e = .returned (.int .i64 (Lib.index s.data.toList sep.data.toList)) ∧ w' = w := Any.bytealg_IndexRabinKarp Try.lays267 s sep h1 h2 hs w
def Try.lays219_ren : Go.Shelf.Ren := ⟨fun | 219 => 39 | 217 => 48 | 225 => 49 | 224 => 50 | 267 => 51 | 266 => 60 | 314 => 61 | n => n, fun | 9 => 9 | 3 => 3 | 4 => 4 | 5 => 5 | 46 => 80 | 146 => 91 | 51 => 90 | n => n, fun | 1 => 0 | n => n⟩
theorem Try.lays219 : Go.Proofs.Lays.n219 Try.prog Try.lays219_ren := {
  mixed := by kernel_rfl
  f217 := Try.func48.trans (congrArg some (by kernel_rfl))
  f219 := Try.func39.trans (congrArg some (by kernel_rfl))
  f224 := Try.func50.trans (congrArg some (by kernel_rfl))
  f225 := Try.func49.trans (congrArg some (by kernel_rfl))
  f266 := Try.func60.trans (congrArg some (by kernel_rfl))
  f267 := Try.func51.trans (congrArg some (by kernel_rfl))
  f314 := Try.func61.trans (congrArg some (by kernel_rfl))
  t3 := Try.underlying3
  a3 := Try.isAgg3
  z3 := Try.sizeOf3
  v3 := Try.zeroValue3
  t4 := Try.underlying4
  a4 := Try.isAgg4
  z4 := Try.sizeOf4
  v4 := Try.zeroValue4
  t5 := Try.underlying5
  a5 := Try.isAgg5
  z5 := Try.sizeOf5
  v5 := Try.zeroValue5
  t9 := Try.underlying9
  a9 := Try.isAgg9
  z9 := Try.sizeOf9
  v9 := Try.zeroValue9
  t46 := Try.underlying80
  a46 := Try.isAgg80
  z46 := Try.sizeOf80
  v46 := Try.zeroValue80
  t51 := Try.underlying90
  a51 := Try.isAgg90
  z51 := Try.sizeOf90
  v51 := Try.zeroValue90
  t146 := Try.underlying91
  a146 := Try.isAgg91
  z146 := Try.sizeOf91
  v146 := Try.zeroValue91
  g1 := by kernel_rfl }
open Go.RowKit Go.Lib in
/-- internal/stringslite.Index (what strings.Index calls) AT A substr OF ONE BYTE c: IT RETURNS 'Lib.indexByte s c'; the world is as it was. (LAID: no walk: one application.) -/
theorem Try.stringslite_Index_one (s : ByteArray) (c : UInt8) (w : World) :
    Calls Try.prog 39 #[.string s, .string ⟨#[c]⟩] w fun e w' => e = .returned (.int .i64 (Lib.indexByte s.data.toList c)) ∧ w' = w := Any.stringslite_Index_one Try.lays219 s c w
open Go.RowKit Go.Lib in
/-- internal/stringslite.Index (what strings.Index calls) AT A substr OF WHATEVER LENGTH: IT RETURNS 'Lib.index s substr'; the world is as it was. 'm': what internal/bytealg.MaxLen holds: whatever. (LAID: no walk: one application.) -/
theorem Try.stringslite_Index (s sub : ByteArray) (m : Int) (w : World) (hs : s.size < 4294967281) (hm : w.cell? ⟨0, 0, none⟩ = some (.int .i64 m)) :
    Calls Try.prog 39 #[.string s, .string sub] w fun e w' => e = .returned (.int .i64 (Lib.index s.data.toList sub.data.toList)) ∧ w' = w := Any.stringslite_Index Try.lays219 s sub m w hs hm
def Try.lays143_ren : Go.Shelf.Ren := ⟨fun | 143 => 31 | 219 => 39 | 217 => 48 | 225 => 49 | 224 => 50 | 267 => 51 | 266 => 60 | 314 => 61 | n => n, fun | 9 => 9 | 3 => 3 | 4 => 4 | 5 => 5 | 46 => 80 | 146 => 91 | 51 => 90 | n => n, fun | 1 => 0 | n => n⟩
theorem Try.lays143 : Go.Proofs.Lays.n143 Try.prog Try.lays143_ren := {
  mixed := by kernel_rfl
  f143 := Try.func31.trans (congrArg some (by kernel_rfl))
  f217 := Try.func48.trans (congrArg some (by kernel_rfl))
  f219 := Try.func39.trans (congrArg some (by kernel_rfl))
  f224 := Try.func50.trans (congrArg some (by kernel_rfl))
  f225 := Try.func49.trans (congrArg some (by kernel_rfl))
  f266 := Try.func60.trans (congrArg some (by kernel_rfl))
  f267 := Try.func51.trans (congrArg some (by kernel_rfl))
  f314 := Try.func61.trans (congrArg some (by kernel_rfl))
  t3 := Try.underlying3
  a3 := Try.isAgg3
  z3 := Try.sizeOf3
  v3 := Try.zeroValue3
  t4 := Try.underlying4
  a4 := Try.isAgg4
  z4 := Try.sizeOf4
  v4 := Try.zeroValue4
  t5 := Try.underlying5
  a5 := Try.isAgg5
  z5 := Try.sizeOf5
  v5 := Try.zeroValue5
  t9 := Try.underlying9
  a9 := Try.isAgg9
  z9 := Try.sizeOf9
  v9 := Try.zeroValue9
  t46 := Try.underlying80
  a46 := Try.isAgg80
  z46 := Try.sizeOf80
  v46 := Try.zeroValue80
  t51 := Try.underlying90
  a51 := Try.isAgg90
  z51 := Try.sizeOf90
  v51 := Try.zeroValue90
  t146 := Try.underlying91
  a146 := Try.isAgg91
  z146 := Try.sizeOf91
  v146 := Try.zeroValue91
  g1 := by kernel_rfl }
open Go.RowKit Go.Lib in
/-- strings.Index: "Index returns the index of the first instance of substr in s, or -1 if substr is not present in s.": AT A substr OF ONE BYTE c: IT RETURNS 'Lib.indexByte s c'; the world is as it was. (LAID: no walk: one application.) -/
theorem Try.strings_Index_one (s : ByteArray) (c : UInt8) (w : World) :
    Calls Try.prog 31 #[.string s, .string ⟨#[c]⟩] w fun e w' => e = .returned (.int .i64 (Lib.indexByte s.data.toList c)) ∧ w' = w := Any.strings_Index_one Try.lays143 s c w
open Go.RowKit Go.Lib in
/-- strings.Index: "Index returns the index of the first instance of substr in s, or -1 if substr is not present in s.": IT RETURNS 'Lib.index s substr'; the world is as it was. (LAID: no walk: one application.) -/
theorem Try.strings_Index (s sub : ByteArray) (m : Int) (w : World) (hs : s.size < 4294967281) (hm : w.cell? ⟨0, 0, none⟩ = some (.int .i64 m)) :
    Calls Try.prog 31 #[.string s, .string sub] w fun e w' => e = .returned (.int .i64 (Lib.index s.data.toList sub.data.toList)) ∧ w' = w := Any.strings_Index Try.lays143 s sub m w hs hm
def Try.laysM219_ren : Go.Shelf.Ren := ⟨fun | 219 => 39 | 217 => 48 | 225 => 49 | 224 => 50 | 267 => 51 | 266 => 60 | 314 => 61 | n => n, fun | 9 => 9 | 3 => 3 | 4 => 4 | 5 => 5 | 46 => 80 | 146 => 91 | 51 => 90 | n => n, fun | 1 => 0 | n => n⟩
theorem Try.laysM219 : Go.Proofs.LaysM.n219 Try.prog Try.laysM219_ren := {
  mixed := by kernel_rfl
  f217 := Try.func48.trans (congrArg some (by kernel_rfl))
  f219 := Try.func39.trans (congrArg some (by kernel_rfl))
  f224 := Try.func50.trans (congrArg some (by kernel_rfl))
  f225 := Try.func49.trans (congrArg some (by kernel_rfl))
  f266 := Try.func60.trans (congrArg some (by kernel_rfl))
  f267 := Try.func51.trans (congrArg some (by kernel_rfl))
  f314 := Try.func61.trans (congrArg some (by kernel_rfl))
  t3 := Try.underlying3
  a3 := Try.isAgg3
  z3 := Try.sizeOf3
  v3 := Try.zeroValue3
  t4 := Try.underlying4
  a4 := Try.isAgg4
  z4 := Try.sizeOf4
  v4 := Try.zeroValue4
  t5 := Try.underlying5
  a5 := Try.isAgg5
  z5 := Try.sizeOf5
  v5 := Try.zeroValue5
  t9 := Try.underlying9
  a9 := Try.isAgg9
  z9 := Try.sizeOf9
  v9 := Try.zeroValue9
  t46 := Try.underlying80
  a46 := Try.isAgg80
  z46 := Try.sizeOf80
  v46 := Try.zeroValue80
  t51 := Try.underlying90
  a51 := Try.isAgg90
  z51 := Try.sizeOf90
  v51 := Try.zeroValue90
  t146 := Try.underlying91
  a146 := Try.isAgg91
  z146 := Try.sizeOf91
  v146 := Try.zeroValue91
  g1 := by kernel_rfl
  i3 := by kernel_rfl
  i4 := by kernel_rfl
  i5 := by kernel_rfl
  i9 := by kernel_rfl
  i46 := by kernel_rfl
  i51 := by kernel_rfl
  i146 := by kernel_rfl
  m1 := by kernel_rfl
  s1_3 := fun w h => Go.Proofs.cell_of_shapedOpen_int (zero := #[.int .i64 0]) (t := 3) h (of_decide_eq_true (by kernel_rfl)) (by kernel_rfl) rfl (by kernel_rfl) (by kernel_rfl) Try.underlying3 }
open Go.RowKit Go.Lib in
theorem Try.stringslite_Index_shaped (s sub : ByteArray) (w : World) (h : w.ShapedOpen Try.prog) (hs : s.size < 4294967281) :
    Calls Try.prog 39 #[.string s, .string sub] w fun e w' => e = .returned (.int .i64 (Lib.index s.data.toList sub.data.toList)) ∧ w' = w := Any.stringslite_Index_shaped Try.laysM219 s sub w h hs
def Try.laysM143_ren : Go.Shelf.Ren := ⟨fun | 143 => 31 | 219 => 39 | 217 => 48 | 225 => 49 | 224 => 50 | 267 => 51 | 266 => 60 | 314 => 61 | n => n, fun | 9 => 9 | 3 => 3 | 4 => 4 | 5 => 5 | 46 => 80 | 146 => 91 | 51 => 90 | n => n, fun | 1 => 0 | n => n⟩
theorem Try.laysM143 : Go.Proofs.LaysM.n143 Try.prog Try.laysM143_ren := {
  mixed := by kernel_rfl
  f143 := Try.func31.trans (congrArg some (by kernel_rfl))
  f217 := Try.func48.trans (congrArg some (by kernel_rfl))
  f219 := Try.func39.trans (congrArg some (by kernel_rfl))
  f224 := Try.func50.trans (congrArg some (by kernel_rfl))
  f225 := Try.func49.trans (congrArg some (by kernel_rfl))
  f266 := Try.func60.trans (congrArg some (by kernel_rfl))
  f267 := Try.func51.trans (congrArg some (by kernel_rfl))
  f314 := Try.func61.trans (congrArg some (by kernel_rfl))
  t3 := Try.underlying3
  a3 := Try.isAgg3
  z3 := Try.sizeOf3
  v3 := Try.zeroValue3
  t4 := Try.underlying4
  a4 := Try.isAgg4
  z4 := Try.sizeOf4
  v4 := Try.zeroValue4
  t5 := Try.underlying5
  a5 := Try.isAgg5
  z5 := Try.sizeOf5
  v5 := Try.zeroValue5
  t9 := Try.underlying9
  a9 := Try.isAgg9
  z9 := Try.sizeOf9
  v9 := Try.zeroValue9
  t46 := Try.underlying80
  a46 := Try.isAgg80
  z46 := Try.sizeOf80
  v46 := Try.zeroValue80
  t51 := Try.underlying90
  a51 := Try.isAgg90
  z51 := Try.sizeOf90
  v51 := Try.zeroValue90
  t146 := Try.underlying91
  a146 := Try.isAgg91
  z146 := Try.sizeOf91
  v146 := Try.zeroValue91
  g1 := by kernel_rfl
  i3 := by kernel_rfl
  i4 := by kernel_rfl
  i5 := by kernel_rfl
  i9 := by kernel_rfl
  i46 := by kernel_rfl
  i51 := by kernel_rfl
  i146 := by kernel_rfl
  m1 := by kernel_rfl
  s1_3 := fun w h => Go.Proofs.cell_of_shapedOpen_int (zero := #[.int .i64 0]) (t := 3) h (of_decide_eq_true (by kernel_rfl)) (by kernel_rfl) rfl (by kernel_rfl) (by kernel_rfl) Try.underlying3 }
open Go.RowKit Go.Lib in
theorem Try.strings_Index_shaped (s sub : ByteArray) (w : World) (h : w.ShapedOpen Try.prog) (hs : s.size < 4294967281) :
    Calls Try.prog 31 #[.string s, .string sub] w fun e w' => e = .returned (.int .i64 (Lib.index s.data.toList sub.data.toList)) ∧ w' = w := Any.strings_Index_shaped Try.laysM143 s sub w h hs
def Try.lays264_ren : Go.Shelf.Ren := ⟨fun | 264 => 58 | n => n, fun | 53 => 93 | 46 => 80 | n => n, fun | n => n⟩
theorem Try.lays264 : Go.Proofs.Lays.n264 Try.prog Try.lays264_ren := {
  mixed := by kernel_rfl
  f264 := Try.func58.trans (congrArg some (by kernel_rfl))
  t46 := Try.underlying80
  a46 := Try.isAgg80
  z46 := Try.sizeOf80
  v46 := Try.zeroValue80
  t53 := Try.underlying93
  a53 := Try.isAgg93
  z53 := Try.sizeOf93
  v53 := Try.zeroValue93 }
open Go.RowKit Go.Lib in
theorem Try.bits_Mul64 (x y : Nat) (hx : x < 18446744073709551616) (hy : y < 18446744073709551616) (w : World) :
    Calls Try.prog 58 #[.int .u64 x, .int .u64 y] w fun e w' => e = .returned (.tuple #[.int .u64 ((x * y / 18446744073709551616 : Nat) : Int), .int .u64 ((x * y % 18446744073709551616 : Nat) : Int)]) ∧ w' = w := Any.bits_Mul64 Try.lays264 x y hx hy w
def Try.lays212_ren : Go.Shelf.Ren := ⟨fun | 212 => 45 | 263 => 57 | 264 => 58 | n => n, fun | 46 => 80 | 51 => 90 | 146 => 91 | 53 => 93 | 148 => 94 | n => n, fun | n => n⟩
theorem Try.lays212 : Go.Proofs.Lays.n212 Try.prog Try.lays212_ren := {
  mixed := by kernel_rfl
  f212 := Try.func45.trans (congrArg some (by kernel_rfl))
  f263 := Try.func57.trans (congrArg some (by kernel_rfl))
  f264 := Try.func58.trans (congrArg some (by kernel_rfl))
  t46 := Try.underlying80
  a46 := Try.isAgg80
  z46 := Try.sizeOf80
  v46 := Try.zeroValue80
  t51 := Try.underlying90
  a51 := Try.isAgg90
  z51 := Try.sizeOf90
  v51 := Try.zeroValue90
  t53 := Try.underlying93
  a53 := Try.isAgg93
  z53 := Try.sizeOf93
  v53 := Try.zeroValue93
  t146 := Try.underlying91
  a146 := Try.isAgg91
  z146 := Try.sizeOf91
  v146 := Try.zeroValue91
  t148 := Try.underlying94
  a148 := Try.isAgg94
  z148 := Try.sizeOf94
  v148 := Try.zeroValue94 }
open Go.RowKit Go.Lib in
/-- math/bits.Mul: "Mul returns the full-width product of x and y": on a machine of 64 bits: Mul64's. (LAID: no walk: one application.) -/
theorem Try.bits_Mul (x y : Nat) (hx : x < 18446744073709551616) (hy : y < 18446744073709551616) (w : World) :
    Calls Try.prog 45 #[.int .u64 x, .int .u64 y] w fun e w' => e = .returned (.tuple #[.int .u64 ((x * y / 18446744073709551616 : Nat) : Int), .int .u64 ((x * y % 18446744073709551616 : Nat) : Int)]) ∧ w' = w := Any.bits_Mul Try.lays212 x y hx hy w
def Try.laysNm216_ren : Go.Shelf.Ren := ⟨fun | 16 => 59 | n => n, fun | 24 => 28 | 9 => 9 | 4 => 4 | n => n, fun | n => n⟩
theorem Try.laysNm216 : Go.Proofs.Lays2.n16 Try.prog Try.laysNm216_ren := {
  mixed := by kernel_rfl
  f16 := Try.func59.trans (congrArg some (by kernel_rfl))
  t4 := Try.underlying4
  a4 := Try.isAgg4
  z4 := Try.sizeOf4
  v4 := Try.zeroValue4
  t9 := Try.underlying9
  a9 := Try.isAgg9
  z9 := Try.sizeOf9
  v9 := Try.zeroValue9
  t24 := Try.underlying28
  a24 := Try.isAgg28
  z24 := Try.sizeOf28
  v24 := Try.zeroValue28
  i9 := by kernel_rfl }
open Go.RowKit Go.Lib in
/-- slices.Clone at []string: "Clone returns a copy of the slice. The elements are copied using assignment, so this is a shallow clone. The result may have additional unused capacity. The result preserves the nilness of s.": OF A SLICE THAT IS NOT nil IT RETURNS A SLICE THAT IS NOT nil, OF THE SAME ELEMENTS, IN MEMORY OF THE CALL's OWN: in the how-to's words (6f): 'w'.ownsRow B e 1 v' n cells': v' begins at the head of a row among the blocks from B on (B: the heap's size at the call), not frozen, whose first cells are the elements · 'Below B w w'': below B all is as it was. The capacity is whatever the run-time gives. 'zs': what the cells behind the slice's address hold; 'zs.take n': its elements. (LAID: no walk: one application.) -/
theorem Try.slices_Clone_string (b off n c : Nat) (zs : List ByteArray) (w : World) (hz : n ≤ zs.length) (hbig : n * 16 ≤ 140737488355328) (hc : ∀ j, j < zs.length → w.cell? ⟨b, off + j, none⟩ = some (.string (zs.getD j ByteArray.empty))) :
    Calls Try.prog 59 #[.slice (some ⟨b, off, none⟩) n c] w fun e w' => ∃ v', e = .returned v' ∧ w'.ownsRow w.heap.size 9 1 v' n ((zs.take n).map (Value.string)) ∧ v' ≠ .slice none 0 0 ∧ Below w.heap.size w w' := Any.slices_Clone_string Try.laysNm216 b off n c zs w hz hbig hc
open Go.RowKit Go.Lib in
/-- The same at nil: nil comes back; the world is as it was. (LAID: no walk: one application.) -/
theorem Try.slices_Clone_string_nil (n c : Nat) (w : World) :
    Calls Try.prog 59 #[.slice none n c] w fun e w' => e = .returned (.slice none 0 0) ∧ w' = w := Any.slices_Clone_string_nil Try.laysNm216 n c w
open Go.RowKit Go.Lib in
/-- The same at a slice of length 0 that is not nil, WHATEVER ITS ADDRESS (no cell is asked for): a slice that is not nil and owns nothing comes back. (LAID: no walk: one application.) -/
theorem Try.slices_Clone_string_zero (a : Addr) (c : Nat) (w : World) :
    Calls Try.prog 59 #[.slice (some a) 0 c] w fun e w' => ∃ v', e = .returned v' ∧ w'.ownsRow w.heap.size 9 1 v' 0 [] ∧ v' ≠ .slice none 0 0 ∧ Below w.heap.size w w' := Any.slices_Clone_string_zero Try.laysNm216 a c w
def Try.laysSlE041_f59_ren : Go.Shelf.Ren := ⟨fun | 41 => 59 | n => n, fun | 22 => 28 | 23 => 9 | 4 => 4 | n => n, fun | n => n⟩
theorem Try.laysSlE041_f59 : Go.Proofs.SlLaysE0.n41 Try.prog Try.laysSlE041_f59_ren := {
  mixed := by kernel_rfl
  f41 := ⟨Try.f59.name, by decide, Try.func59.trans (congrArg some (by kernel_rfl))⟩
  t4 := Try.underlying4
  a4 := Try.isAgg4
  z4 := Try.sizeOf4
  v4 := Try.zeroValue4
  t22 := Try.underlying28
  a22 := Try.isAgg28
  z22 := Try.sizeOf28
  v22 := Try.zeroValue28 }
open Go.RowKit Go.Lib in
/-- slices.Clone: "Clone returns a copy of the slice. The elements are copied using assignment, so this is a shallow clone. The result may have additional unused capacity. The result preserves the nilness of s.": OF A SLICE THAT IS NOT nil IT RETURNS A SLICE THAT IS NOT nil, OF THE SAME CELLS, IN MEMORY OF THE CALL's OWN ('ownsRow': the how-to's 6f); below the heap's size at the call all is as it was. (LAID AT THE INSTANCE 'slices.Clone[[]string,string]': no walk: one application.) -/
theorem Try.slices_Clone (i0 : TypeInfo) (z : Value) (size bytes : Nat) (hi : Try.prog.info? 9 = some i0) (hz0 : i0.zero = some z) (hz1 : i0.size = size) (hz2 : i0.bytes = bytes) (hzs : z.cells.size = size) (hsz : 0 < size) (z23 : ∀ w, (Go.sizeOf 9).run Try.prog w = .ok size w) (b off n c : Nat) (news : List Value) (w : World) (hl : news.length = n * size) (hn : n ≤ maxLen) (hbig : n * bytes ≤ 140737488355328) (hc : ∀ j u, news[j]? = some u → w.cell? ⟨b, off + j, none⟩ = some u) (h1 : ∀ u ∈ news, u.oneCell' = true) :
    Calls Try.prog 59 #[.slice (some ⟨b, off, none⟩) n c] w fun e w' => ∃ v', e = .returned v' ∧ w'.ownsRow w.heap.size 9 size v' n news ∧ v' ≠ .slice none 0 0 ∧ Below w.heap.size w w' := AnyE.slices_Clone Try.laysSlE041_f59 i0 z size bytes hi hz0 hz1 hz2 hzs hsz z23 b off n c news w hl hn hbig hc h1
open Go.RowKit Go.Lib in
/-- The same at nil: nil comes back; the world is as it was; nothing is asked of the element's type. (LAID AT THE INSTANCE 'slices.Clone[[]string,string]': no walk: one application.) -/
theorem Try.slices_Clone_nil (n c : Nat) (w : World) :
    Calls Try.prog 59 #[.slice none n c] w fun e w' => e = .returned (.slice none 0 0) ∧ w' = w := AnyE.slices_Clone_nil Try.laysSlE041_f59 n c w
end Go.Proofs
end

section
namespace Go.P
/-- a round of Repeat -/
theorem rep_step {α : Type} {l l' : List α} {v : α} {m : Int} (h0 : 0 ≤ m) (h1 : m ≤ l.length) (hm : l.take m.toNat = List.replicate m.toNat v) (hl : l' = l.take m.toNat ++ ((l.drop 0).take (m.toNat - 0)).take ((l.drop m.toNat).take (l.length - m.toNat)).length ++ l.drop (m.toNat + min ((l.drop 0).take (m.toNat - 0)).length ((l.drop m.toNat).take (l.length - m.toNat)).length)) :
    l'.length = l.length ∧ l'.take (m + (min ((l.drop 0).take (m.toNat - 0)).length ((l.drop m.toNat).take (l.length - m.toNat)).length : Nat)).toNat = List.replicate (m + (min ((l.drop 0).take (m.toNat - 0)).length ((l.drop m.toNat).take (l.length - m.toNat)).length : Nat)).toNat v ∧ m + (min ((l.drop 0).take (m.toNat - 0)).length ((l.drop m.toNat).take (l.length - m.toNat)).length : Nat) ≤ l.length ∧ (0 < m → m < l.length → 0 < min ((l.drop 0).take (m.toNat - 0)).length ((l.drop m.toNat).take (l.length - m.toNat)).length) := by
  have e1 : ((l.drop 0).take (m.toNat - 0)).length = m.toNat := by simp; omega
  have e2 : ((l.drop m.toNat).take (l.length - m.toNat)).length = l.length - m.toNat := by simp
  have e3 : (l.drop 0).take (m.toNat - 0) = List.replicate m.toNat v := by simpa using hm
  rw [e1, e2] at hl ⊢
  rw [e3, hm] at hl
  refine ⟨?_, ?_, by omega, by omega⟩
  · rw [hl]; simp; omega
  · rw [show (m + ((min m.toNat (l.length - m.toNat) : Nat) : Int)).toNat = m.toNat + min m.toNat (l.length - m.toNat) by omega, hl, List.take_append_of_le_length (by simp; omega), List.take_replicate, List.replicate_append_replicate, List.take_replicate]
    congr 1
    omega
end Go.P
namespace Go.P
theorem rep_init {n v : Int} {r s t : List Int} (h0 : 0 ≤ n) (hr : r = [v]) (hs : s = List.replicate n.toNat 0) (ht : t = s.take 0 ++ r.take s.length ++ s.drop (0 + min r.length s.length)) :
    0 ≤ ((min r.length s.length : Nat) : Int) ∧ ((min r.length s.length : Nat) : Int) ≤ t.length ∧ t.length = n.toNat ∧ t.take ((min r.length s.length : Nat) : Int).toNat = List.replicate ((min r.length s.length : Nat) : Int).toNat v ∧ (((min r.length s.length : Nat) : Int) = 0 → n = 0) := by
  subst hr
  have hl : s.length = n.toNat := by rw [hs]; simp
  cases hn : n.toNat with
  | zero =>
    rw [hn] at hl
    have : s = [] := List.length_eq_zero_iff.1 hl
    subst this
    simp at ht
    subst ht
    simp
    omega
  | succ k =>
    rw [hn] at hl hs
    have e : min [v].length s.length = 1 := by simp; omega
    rw [e] at *
    rw [hs] at ht
    subst ht
    simp
    omega
theorem rep_end {m n v : Int} {s : List Int} (h1 : m ≤ s.length) (h : ¬ m < s.length) (hl : s.length = n.toNat) (hm : s.take m.toNat = List.replicate m.toNat v) : s = List.replicate n.toNat v := by
  have e : m.toNat = s.length := by omega
  rw [e, List.take_length] at hm
  rw [← hl]
  exact hm
end Go.P
end

section
namespace Go.Proofs.Ytmkncbldffncpaa
open Go.RowKit Go.V
open Go.P hiding Str
theorem mul1_ct (x n : Int) (hx : x = 1) (h0 : 0 ≤ n) (h1 : n ≤ 1048576) : Ct Try.prog 45 [.int .u64 x, .int .u64 n] Mo.tt Ow.emp (X := Unit) (fun _ => .tuple #[.int .u64 0, .int .u64 n]) (fun _ => True) (fun _ => Mo.tt) (fun _ => Ow.emp) :=
  Ct.of_gr (entry_of Try.func45 rfl (by kernel_rfl)) fun w h _ _ => by
  have := Try.bits_Mul 1 n.toNat (by omega) (by omega) w
  subst hx
  have e1 : ((n.toNat : Nat) : Int) = n := by omega
  have e2 : 1 * n.toNat / 18446744073709551616 = 0 := by omega
  have e3 : 1 * n.toNat % 18446744073709551616 = n.toNat := by omega
  rw [e2, e3, e1] at this
  refine this.mono fun e w' ⟨h1, h2⟩ => ⟨h1, h2 ▸ Gr.refl w⟩

set_option maxRecDepth 100000 in
theorem repeat_ct (r : Sv Int) (v n : Int) (hr : r.l = [v]) (h0 : 0 ≤ n) (h1 : n ≤ 1048576) :
    Ct Try.prog 36 [r.val, i64 n] r.ok Ow.emp (X := Sv Int) Sv.val (fun q => q.l = List.replicate n.toNat v) (fun _ => Mo.tt) (fun q => q.own 3) := by
  have hrl : (r.l.length : Int) = 1 := by rw [hr]; rfl
  refine Ct.of Try.func36 rfl (by kernel_rfl) Try.ntmps36 (by simp) fun c => ?_
  refine VC.seq ?_
  refine VC.region ?_
  refine VL.q (q_assign rfl) (by decide) ?_
  refine VL.to (fun _ _ h => h) ?_
  refine VC.seq ?_
  refine VC.seq ?_
  refine VC.region ?_
  refine VL.q (q_move rfl) (by decide) ?_
  refine VL.q (q_lss rfl rfl) (by decide) ?_
  refine VL.to (fun _ _ h => h) ?_
  refine VC.cond_dec rfl (fun h10 => ?_) (fun h10 => ?_)
  · exact absurd h10 (by omega)
  · -- else of 10
    refine VC.skip_to (fun _ _ h => h) ?_
    refine VC.seq ?_
    refine VC.region ?_
    refine VL.q (q_move rfl) (by decide) ?_
    refine VL.q (q_ln (s := r) Try.underlying49 rfl) (by decide) ?_
    refine VL.q (q_conv Try.underlying3 Try.underlying80 rfl (by rw [hrl]; rfl)) (by decide) ?_
    refine VL.q (q_move rfl) (by decide) ?_
    refine VL.q (q_conv Try.underlying3 Try.underlying80 rfl (wrap_u64 (by omega) (by omega))) (by decide) ?_
    refine VL.q (q_call (mul1_ct (r.l.length : Int) n hrl h0 h1) rfl (fun _ _ => rfl)) (by decide) ?_
    refine VL.q (q_move rfl) (by decide) ?_
    refine VL.q (q_extract rfl rfl) (by decide) ?_
    refine VL.q (q_extract rfl rfl) (by decide) ?_
    refine VL.q (q_assign rfl) (by decide) ?_
    refine VL.q (q_assign rfl) (by decide) ?_
    refine VL.to (fun _ _ h => h) ?_
    refine VC.seq ?_
    refine VC.seq ?_
    refine VC.region ?_
    refine VL.q (q_move rfl) (by decide) ?_
    refine VL.q (q_gtr rfl rfl) (by decide) ?_
    refine VL.setv 22 rfl (congrArg Value.bool (decide_eq_false (by omega))) ?_
    refine VL.q (q_move rfl) (by decide) ?_
    refine VL.gy rfl rfl (q_move rfl) (by decide) ?_
    refine VL.gy rfl rfl (q_gtr rfl rfl) (by decide) ?_
    refine VL.q (q_pick_f rfl rfl) (by decide) ?_
    refine VL.to (fun _ _ h => h) ?_
    refine VC.cond_dec rfl (fun h26 => ?_) (fun h26 => ?_)
    · exact absurd h26 (by omega)
    · -- else of 26
      refine VC.skip_to (fun _ _ h => h) ?_
      refine VC.seq ?_
      refine VC.region ?_
      refine VL.q (q_move rfl) (by decide) ?_
      refine VL.q (q_conv Try.underlying80 Try.underlying3 rfl (IntWalk.i64_in _ (by omega))) (by decide) ?_
      refine VL.make (α := Int) (z := 0) Try.underlying49 mk3 (by decide) rfl rfl (by omega) (by omega) (by omega) (by omega) (by decide) (fun s30 hs30 => ?_)
      refine VL.q (q_assign rfl) (by decide) ?_
      refine VL.to (fun _ _ h => h) ?_
      refine VC.seq ?_
      refine VC.region ?_
      refine VL.q (q_move rfl) (by decide) ?_
      refine VL.q (q_move rfl) (by decide) ?_
      refine VL.copy (s := s30) (T := 3) (k := 0) (n := s30.l.length) (sr := r.l) rfl Try.underlying49 sz3 Fo.out rfl (by simp) (fun _ => .inr ⟨rfl, rfl⟩) (ok_src rfl) (by decide) fun s33 hs33 hv33 ha33 hc33 => ?_
      rw [← hv33]
      refine VL.q (q_assign rfl) (by decide) ?_
      refine VL.to (fun _ _ h => h) ?_
      refine VC.seq ?_
      refine VC.block ?_
      refine VC.loopK (S := Int × Sv Int) (fun sg => 0 ≤ sg.1 ∧ sg.1 ≤ sg.2.l.length ∧ sg.2.l.length = n.toNat ∧ sg.2.l.take sg.1.toNat = List.replicate sg.1.toNat v ∧ (sg.1 = 0 → n = 0)) (fun sg => [(0, r.val), (1, i64 n), (4, .slice none 0 0), (5, .int .u64 (0 : Int)), (6, .int .u64 n), (7, sg.2.val), (8, i64 sg.1), (7, sg.2.val)]) (fun sg => Ow.star (Sv.own sg.2 3) (Ow.emp)) (fun sg => (sg.2.l.length - sg.1).toNat) (((min r.l.length s30.l.length : Nat) : Int), s33) [0, 1, 4, 5, 6, 7, 8, 7] (by (try dsimp only); exact rep_init h0 hr hs30 hs33) rfl (by (try dsimp only); exact EntO.out) ?_
      rintro ⟨m, s⟩ hI
      show VC _ _ _ _ _ [(0, r.val), (1, i64 n), (4, .slice none 0 0), (5, .int .u64 (0 : Int)), (6, .int .u64 n), (7, s.val), (8, i64 m), (7, s.val)] _ (Ow.star (Sv.own s 3) (Ow.emp))
      try dsimp only at hI
      obtain ⟨h0m, h1m, hsl, hm, hmz⟩ := hI
      refine VC.seq ?_
      refine VC.seq ?_
      refine VC.region ?_
      refine VL.q (q_move rfl) (by decide) ?_
      refine VL.q (q_move rfl) (by decide) ?_
      refine VL.q (q_ln (s := s) Try.underlying49 rfl) (by decide) ?_
      refine VL.q (q_lss rfl rfl) (by decide) ?_
      refine VL.to (fun _ _ h => h) ?_
      refine VC.cond_dec rfl (fun h37 => ?_) (fun h37 => ?_)
      · -- then of 37
        refine VC.skip_to (fun _ _ h => h) ?_
        refine VC.block ?_
        refine VC.lenO s fun hlc hcm => ?_
        refine VC.draw [(0, true), (1, true), (2, true), (3, true), (4, true), (5, true), (6, true), (7, false), (8, true), (9, true)] mixed (by kernel_rfl) (by kernel_rfl) (by kernel_rfl) ?_
        refine VD.q rfl (q_move rfl) (by decide) ?_
        refine VD.q rfl (q_move rfl) (by decide) ?_
        refine VD.q rfl (q_move rfl) (by decide) ?_
        refine VD.q rfl (q_cut (s := s) m.toNat s.l.length s.c Try.underlying49 sz3 rfl rfl rfl rfl (by show m = _; omega) rfl rfl (fun h => by cases h) (by omega) hlc (Nat.le_refl _) (Nat.le_refl _)) (by decide) ?_
        refine VD.q rfl (q_move rfl) (by decide) ?_
        refine VD.q rfl (q_move rfl) (by decide) ?_
        refine VD.q rfl (q_cut (s := s) 0 m.toNat s.c Try.underlying49 sz3 rfl rfl rfl rfl rfl (by show m = _; omega) rfl (fun h => by cases h) (by omega) (by omega) (Nat.le_refl _) (by omega)) (by decide) ?_
        refine VD.one rfl ?_
        refine VL.copy (s := s) (T := 3) (k := m.toNat) (n := ((s.l.drop m.toNat).take (s.l.length - m.toNat)).length) (sr := (s.l.drop 0).take (m.toNat - 0)) rfl Try.underlying49 sz3 Fo.out rfl (by simp; omega) (fun hn => .inl (if_neg (by simp at hn; omega))) (own_src rfl (by omega)) (by decide) fun s' hs' hv' ha' hc' => ?_
        rw [← hv']
        refine VL.back (D' := []) (by kernel_rfl) (Pend.nil) ?_
        obtain ⟨r1, r2, r3, r4⟩ := rep_step h0m h1m hm hs'
        refine VD.q rfl (q_add rfl rfl ⟨by omega, by omega⟩) (by decide) ?_
        refine VD.q rfl (q_assign rfl) (by decide) ?_
        refine VD.anyI ((m + ((min ((s.l.drop 0).take (m.toNat - 0)).length ((s.l.drop m.toNat).take (s.l.length - m.toNat)).length : Nat) : Int)), s') [0, 1, 4, 5, 6, 7, 8, 7] (fun _ _ h => h) ?_ rfl (by (try dsimp only); exact EntO.out)
        try dsimp only
        exact ⟨⟨by omega, by omega, by omega, r2, by omega⟩, by omega⟩
      · -- else of 37
        refine VC.exit_to (fun _ _ h => h) ?_
        refine VC.seq ?_
        refine VC.region ?_
        refine VL.q (q_move rfl) (by decide) ?_
        refine VL.q (q_assign rfl) (by decide) ?_
        refine VL.to (fun _ _ h => h) ?_
        exact VC.ret (fin1I (.inr rfl) rfl rfl s rfl ((rep_end h1m (by assumption) hsl hm)) HasO.out)

end Go.Proofs.Ytmkncbldffncpaa
end

section
namespace Go.P
def fillN (o : List Int) (m : Mat) : Nat → List Int
  | 0 => o
  | k + 1 => (fillN o m k).set (m.a + k).toNat (m.b + k)
def fill (o : List Int) (ms : List Mat) : List Int := ms.foldl (fun o m => fillN o m m.n.toNat) o
theorem fillN_length (o : List Int) (m : Mat) : ∀ k, (fillN o m k).length = o.length
  | 0 => rfl
  | k + 1 => by simp [fillN, fillN_length o m k]
theorem fill_length (ms : List Mat) : ∀ o : List Int, (fill o ms).length = o.length := by
  induction ms with
  | nil => intro o; rfl
  | cons m r ih => intro o; simp only [fill, List.foldl_cons] at *; rw [ih, fillN_length]
theorem fill_snoc {o : List Int} {ms : List Mat} {m : Mat} {k : Int} (h0 : 0 ≤ k) (h : ms[k.toNat]? = some m) : fill o (ms.take (k + 1).toNat) = fillN (fill o (ms.take k.toNat)) m m.n.toNat := by
  rw [show (k + 1).toNat = k.toNat + 1 by omega, List.take_add_one, h]
  simp [fill, List.foldl_append]
theorem fillN_step {o p q : List Int} {m : Mat} {x : Int} (h0 : 0 ≤ x) (hp : p = fillN o m x.toNat) (hq : q = p.set (m.a + x).toNat (m.b + x)) : q = fillN o m (x + 1).toNat := by
  rw [show (x + 1).toNat = x.toNat + 1 by omega, fillN, ← hp, hq, show ((x.toNat : Nat) : Int) = x by omega]
def c1 (l : List Edit) : Int := (l.filter fun e => decide (¬ e.op = 3)).length
def c2 (l : List Edit) : Int := (l.filter fun e => decide (¬ e.op = 2)).length
theorem mfold_bd : ∀ (l : List Edit) (i j : Int) (row : Bool) (o : List Mat), 0 ≤ i → 0 ≤ j → Bd o i j → Bd (mfold l i j row o) (i + c1 l) (j + c2 l)
  | [], i, j, _, o, _, _, h => by simpa [mfold, c1, c2] using h
  | e :: r, i, j, row, o, hi, hj, h => by
    have h1 : c1 (e :: r) = (if e.op = 3 then 0 else 1) + c1 r := by
      simp only [c1, List.filter_cons]
      by_cases q : e.op = 3 <;> simp [q] <;> omega
    have h2 : c2 (e :: r) = (if e.op = 2 then 0 else 1) + c2 r := by
      simp only [c2, List.filter_cons]
      by_cases q : e.op = 2 <;> simp [q] <;> omega
    have hi' : i ≤ (if e.op = 3 then i else i + 1) := by split <;> omega
    have hj' : j ≤ (if e.op = 2 then j else j + 1) := by split <;> omega
    have key : Bd (if e.op = 1 then bump (if row then o else o ++ [⟨i, j, 0⟩]) else o) (if e.op = 3 then i else i + 1) (if e.op = 2 then j else j + 1) := by
      by_cases q : e.op = 1
      · have e1 : (if e.op = 3 then i else i + 1) = i + 1 := if_neg (by omega)
        have e2 : (if e.op = 2 then j else j + 1) = j + 1 := if_neg (by omega)
        rw [if_pos q, e1, e2]
        refine Bd.bump ?_
        split
        · exact h
        · exact h.snoc hi hj
      · rw [if_neg q]; exact h.up hi' hj'
    have := mfold_bd r (if e.op = 3 then i else i + 1) (if e.op = 2 then j else j + 1) (decide (e.op = 1)) _ (by omega) (by omega) key
    simp only [mfold]
    refine this.up ?_ ?_
    · rw [h1]; split <;> omega
    · rw [h2]; split <;> omega
theorem c_cons (e : Edit) (r : List Edit) : c1 (e :: r) = (if e.op = 3 then 0 else 1) + c1 r ∧ c2 (e :: r) = (if e.op = 2 then 0 else 1) + c2 r := by
  constructor
  · simp only [c1, List.filter_cons]
    by_cases q : e.op = 3 <;> simp [q] <;> omega
  · simp only [c2, List.filter_cons]
    by_cases q : e.op = 2 <;> simp [q] <;> omega
theorem c_edits : ∀ a b : List Str, c1 (edits a b) = a.length ∧ c2 (edits a b) = b.length
  | [], b => by
    constructor
    · simp [edits, c1, List.filter_map, Function.comp_def]
    · simp only [edits, c2, List.filter_map, List.length_map]
      rw [show List.filter ((fun e : Edit => decide ¬e.op = 2) ∘ fun y => (⟨3, y⟩ : Edit)) b = b from List.filter_eq_self.2 (fun _ _ => rfl)]
  | x :: a, [] => by
    have := c_edits a []
    rw [edits_nil, (c_cons _ _).1, (c_cons _ _).2]
    simp at this ⊢
    omega
  | x :: a, y :: b => by
    rw [edits_cons]
    split
    · have := c_edits a b
      rw [(c_cons _ _).1, (c_cons _ _).2]; simp; omega
    · split
      · have := c_edits a (y :: b)
        rw [(c_cons _ _).1, (c_cons _ _).2]; simp at this ⊢; omega
      · have := c_edits (x :: a) b
        rw [(c_cons _ _).1, (c_cons _ _).2]; simp at this ⊢; omega
theorem mats_bd (a b : List Str) : Bd (mats (edits a b)) a.length b.length := by
  have := mfold_bd (edits a b) 0 0 false [] (by omega) (by omega) (fun _ h => by cases h)
  rw [(c_edits a b).1, (c_edits a b).2] at this
  simpa [mats] using this
/-- where each line of the one is in the other -/
def places (a b : List Str) : List Int := fill (List.replicate a.length (-1)) (mats (edits a b))
end Go.P
end

section
namespace Go.Proofs.Ytmkncbldffncpaa
open Go.RowKit Go.V
open Go.P hiding Str
theorem lit3 : ((Try.prog.info? 3).map fun i => (i.size, i.zero.isSome)) = some (1, true) := by kernel_rfl
theorem agg69 : AggOf Try.prog 69 3 := aggOf_of Try.underlying69 rfl (by kernel_rfl)
theorem fa69_0 : FieldAt Try.prog 69 0 0 := fieldAt_sz (n := 0) (f := ⟨_, _, 0, _, _, _, _⟩) Try.underlying69 rfl (by kernel_rfl)
theorem fa69_1 : FieldAt Try.prog 69 1 1 := fieldAt_sz (n := 0) (f := ⟨_, _, 1, _, _, _, _⟩) Try.underlying69 rfl (by kernel_rfl)
set_option maxRecDepth 100000 in
theorem places_ct (a b : Sv Str) (ha : a.l.length ≤ 256) (hb : b.l.length ≤ 256) :
    Ct Try.prog 21 [a.val, b.val] (a.ok.and b.ok) Ow.emp (X := Sv Int) (fun q => .tuple #[q.val, .nilIface]) (fun q => q.l = places a.l b.l) (fun q => q.ok) (fun _ => Ow.emp) := by
  refine Ct.of Try.func21 rfl (by kernel_rfl) Try.ntmps21 (by simp) fun c => ?_
  refine VC.seq ?_
  refine VC.region ?_
  refine VL.q (q_assign rfl) (by decide) ?_
  refine VL.q (q_assign rfl) (by decide) ?_
  refine VL.to (fun _ _ h => h) ?_
  refine VC.seq ?_
  refine VC.region ?_
  refine VL.q (q_move rfl) (by decide) ?_
  refine VL.q (q_move rfl) (by decide) ?_
  refine VL.callF (matches_ct a b ha hb) rfl (by decide) ?_
  rintro l hl
  refine VL.q (q_move rfl) (by decide) ?_
  refine VL.q (q_extract rfl rfl) (by decide) ?_
  refine VL.q (q_extract rfl rfl) (by decide) ?_
  refine VL.q (q_assign rfl) (by decide) ?_
  refine VL.q (q_assign rfl) (by decide) ?_
  refine VL.to (fun _ _ h => h) ?_
  refine VC.seq ?_
  refine VC.seq ?_
  refine VC.region ?_
  refine VL.q (q_move rfl) (by decide) ?_
  refine VL.q (q_nilne Try.underlying24 rfl) (by decide) ?_
  refine VL.to (fun _ _ h => h) ?_
  refine VC.cond_f rfl ?_
  refine VC.skip_to (fun _ _ h => h) ?_
  refine VC.seq ?_
  refine VC.region ?_
  refine VL.lit (α := Int) (xs := [.const (i64 (-1))]) (vs := [i64 (-1)]) [(-1)] Try.underlying49 lit3 (by decide) rfl rfl rfl rfl (by decide) (fun _ _ _ _ => trivial) (by decide) (fun s21 hs21 => ?_) (by decide)
  refine VL.q (q_move rfl) (by decide) ?_
  refine VL.q (q_ln (s := a) Try.underlying28 rfl) (by decide) ?_
  refine VL.callO (repeat_ct s21 (-1) (a.l.length : Int) hs21 (by omega) (by omega)) rfl (by decide) ?_
  rintro s24 hs24
  refine VL.q (q_assign rfl) (by decide) ?_
  refine VL.to (fun _ _ h => h) ?_
  refine VC.seq ?_
  refine VC.seq ?_
  refine VC.region ?_
  refine VL.q (q_move rfl) (by decide) ?_
  refine VL.q (q_ln (s := l) Try.underlying64 rfl) (by decide) ?_
  refine VL.q (q_move rfl) (by decide) ?_
  refine VL.to (fun _ _ h => h) ?_
  refine VC.block ?_
  refine VC.len l fun hll => ?_
  refine VC.loopK (S := Int × Sv Int) (fun sg => 0 ≤ sg.1 ∧ sg.1 ≤ l.l.length ∧ sg.2.l = fill (List.replicate a.l.length (-1)) (l.l.take sg.1.toNat)) (fun sg => [(0, a.val), (1, b.val), (4, .slice none 0 0), (5, .nilIface), (6, l.val), (7, .nilIface), (8, sg.2.val), (25, l.val), (26, i64 (l.l.length : Int)), (27, i64 sg.1), (8, sg.2.val)]) (fun sg => Ow.star (Sv.own sg.2 3) (Ow.emp)) (fun sg => (l.l.length - sg.1).toNat) (0, s24) [0, 1, 4, 5, 6, 7, 8, 25, 26, 27, 8] (by (try dsimp only); exact ⟨by omega, by omega, by rw [hs24]; simp [fill]⟩) rfl (by (try dsimp only); exact EntO.out) ?_
  rintro ⟨k, o⟩ hI
  show VC _ _ _ _ _ [(0, a.val), (1, b.val), (4, .slice none 0 0), (5, .nilIface), (6, l.val), (7, .nilIface), (8, o.val), (25, l.val), (26, i64 (l.l.length : Int)), (27, i64 k), (8, o.val)] _ (Ow.star (Sv.own o 3) (Ow.emp))
  try dsimp only at hI
  obtain ⟨k0, k1, ho⟩ := hI
  refine VC.seq ?_
  refine VC.region ?_
  refine VL.q (q_lss rfl rfl) (by decide) ?_
  refine VL.to (fun _ _ h => h) ?_
  refine VC.seq ?_
  refine VC.cond_dec rfl (fun h28 => ?_) (fun h28 => ?_)
  · -- then of 28
    refine VC.skip_to (fun _ _ h => h) ?_
    refine VC.seq ?_
    refine VC.block ?_
    refine VC.seq ?_
    refine VC.region ?_
    obtain ⟨z29, hz29⟩ : ∃ z, l.l[(k).toNat]? = some z := ⟨_, List.getElem?_eq_getElem (by omega)⟩
    refine VL.q (q_ixm (s := l) Try.underlying64 sz69 rfl rfl (by omega) (by omega)) (by decide) ?_
    refine VL.q (q_els (s := l) agg69 rfl rfl hz29) (by decide) ?_
    refine VL.alloc (cs := [i64 0, i64 0, i64 0]) (by kernel_rfl) (by decide) fun b10 => ?_
    refine VL.store (vc := [i64 z29.a, i64 z29.b, i64 z29.n]) (cs' := [i64 z29.a, i64 z29.b, i64 z29.n]) rfl rfl rfl sz69 rfl rfl (Nat.le_of_ble_eq_true rfl) rfl ?_
    refine VL.to (fun _ _ h => h) ?_
    refine VC.seq ?_
    have hbd := mats_bd a.l b.l z29 (by rw [← hl]; exact List.mem_of_getElem? hz29)
    have hlo : o.l.length = a.l.length := by rw [ho, fill_length]; simp
    refine VC.region ?_
    refine VL.q (q_field fa69_2 rfl) (by decide) ?_
    refine VL.q (q_fe one3 rfl rfl) (by decide) ?_
    refine VL.q (q_move rfl) (by decide) ?_
    refine VL.to (fun _ _ h => h) ?_
    refine VC.block ?_
    refine VC.loopK (S := Int × Sv Int) (fun sg => 0 ≤ sg.1 ∧ sg.1 ≤ z29.n ∧ sg.2.l = fillN o.l z29 sg.1.toNat) (fun sg => [(0, a.val), (1, b.val), (4, .slice none 0 0), (5, .nilIface), (6, l.val), (7, .nilIface), (25, l.val), (26, i64 (l.l.length : Int)), (27, i64 k), (8, sg.2.val), (10, ptr b10 0), (32, i64 z29.n), (33, i64 sg.1), (8, sg.2.val)]) (fun sg => Ow.star (Sv.own sg.2 3) (Ow.star (Blk b10 [i64 z29.a, i64 z29.b, i64 z29.n] 69) (Ow.emp))) (fun sg => (z29.n - sg.1).toNat) (0, o) [0, 1, 4, 5, 6, 7, 25, 26, 27, 8, 10, 32, 33, 8] (by (try dsimp only); exact ⟨by omega, by omega, rfl⟩) rfl (by (try dsimp only); exact EntO.out) ?_
    rintro ⟨x, p⟩ hI
    show VC _ _ _ _ _ [(0, a.val), (1, b.val), (4, .slice none 0 0), (5, .nilIface), (6, l.val), (7, .nilIface), (25, l.val), (26, i64 (l.l.length : Int)), (27, i64 k), (8, p.val), (10, ptr b10 0), (32, i64 z29.n), (33, i64 x), (8, p.val)] _ (Ow.star (Sv.own p 3) (Ow.star (Blk b10 [i64 z29.a, i64 z29.b, i64 z29.n] 69) (Ow.emp)))
    try dsimp only at hI
    obtain ⟨x0, x1, hp⟩ := hI
    have hlp : p.l.length = o.l.length := by rw [hp, fillN_length]
    refine VC.seq ?_
    refine VC.region ?_
    refine VL.q (q_lss rfl rfl) (by decide) ?_
    refine VL.to (fun _ _ h => h) ?_
    refine VC.seq ?_
    refine VC.cond_dec rfl (fun h34 => ?_) (fun h34 => ?_)
    · -- then of 34
      refine VC.skip_to (fun _ _ h => h) ?_
      refine VC.seq ?_
      refine VC.block ?_
      refine VC.seq ?_
      refine VC.region ?_
      refine VL.q (q_move rfl) (by decide) ?_
      refine VL.q (q_assign rfl) (by decide) ?_
      refine VL.to (fun _ _ h => h) ?_
      refine VC.region ?_
      refine VL.q (q_move rfl) (by decide) ?_
      refine VL.q (q_field fa69_0 rfl) (by decide) ?_
      refine VL.q (q_fe one3 rfl rfl) (by decide) ?_
      refine VL.q (q_move rfl) (by decide) ?_
      refine VL.q (q_add rfl rfl ⟨by omega, by omega⟩) (by decide) ?_
      refine VL.q (q_field fa69_1 rfl) (by decide) ?_
      refine VL.q (q_fe one3 rfl rfl) (by decide) ?_
      refine VL.q (q_move rfl) (by decide) ?_
      refine VL.q (q_add rfl rfl ⟨by omega, by omega⟩) (by decide) ?_
      obtain ⟨z45, hz45⟩ : ∃ z, p.l[((z29.a + x)).toNat]? = some z := ⟨_, List.getElem?_eq_getElem (by omega)⟩
      refine VL.q (q_ixo (s := p) Try.underlying49 sz3 rfl rfl (by omega) (by omega)) (by decide) ?_
      refine VL.storeE (s := p) (T := 3) (j := 0) (vc := [i64 (z29.b + x)]) ((z29.b + x) : Int) (by decide) rfl rfl hz45 rfl sz3 rfl rfl (Nat.le_of_ble_eq_true rfl) rfl (fun w0 hw0 haw0 hcw0 hvw0 hbw0 how0 => ?_)
      rw [← hvw0]
      refine VL.to (fun _ _ h => h) ?_
      refine VC.region ?_
      refine VL.q (q_add rfl rfl ⟨by omega, by omega⟩) (by decide) ?_
      refine VL.q (q_move rfl) (by decide) ?_
      refine VL.anyI ((x + 1), w0) [0, 1, 4, 5, 6, 7, 25, 26, 27, 8, 10, 32, 33, 8] (fun _ _ h => h) ?_ rfl (by (try dsimp only); exact EntO.out)
      try dsimp only
      exact ⟨⟨by omega, by omega, fillN_step x0 hp hw0⟩, by omega⟩
    · -- else of 34
      refine VC.exit_to (fun _ _ h => h) ?_
      refine VC.region ?_
      refine VL.q (q_add rfl rfl ⟨by omega, by omega⟩) (by decide) ?_
      refine VL.q (q_move rfl) (by decide) ?_
      refine VL.anyI ((k + 1), p) [0, 1, 4, 5, 6, 7, 8, 25, 26, 27, 8] (fun _ _ h => h) ?_ rfl (by (try dsimp only); exact EntO.out)
      try dsimp only
      exact ⟨⟨by omega, by omega, by rw [fill_snoc k0 hz29, ← ho, hp]; congr 1; omega⟩, by omega⟩
  · -- else of 28
    refine VC.exit_to (fun _ _ h => h) ?_
    refine VC.seq ?_
    refine VC.region ?_
    refine VL.q (q_move rfl) (by decide) ?_
    refine VL.q (q_assign rfl) (by decide) ?_
    refine VL.q (q_assign rfl) (by decide) ?_
    refine VL.to (fun _ _ h => h) ?_
    refine VC.shut o 3 (fun _ _ _ _ => trivial) ?_
    exact VC.ret (fin2I (.inr rfl) rfl rfl rfl o rfl ((by rw [ho, List.take_of_length_le (by omega), hl]; rfl)) (fun _ _ => trivial))

end Go.Proofs.Ytmkncbldffncpaa
end

section
namespace Go.P
structure Chunk where
  base : List Str
  ours : List Str
  theirs : List Str
  clash : Bool
  out : List Str
deriving DecidableEq
/-- what lies between kept lines -/
def gapv (b o t : List Str) : Chunk := if o = b then ⟨b, o, t, false, t⟩ else if t = b then ⟨b, o, t, false, o⟩ else if o = t then ⟨b, o, t, false, o⟩ else ⟨b, o, t, true, []⟩
/-- lines as one text -/
def join : List Str → Str
  | [] => []
  | x :: r => x ++ join r
def closed (l : List Str) : Str := if join l = [] ∨ [10].isSuffixOf (join l) = true then join l else join l ++ [10]
def clashv (c : Chunk) (a b : Str) : Str := [60, 60, 60, 60, 60, 60, 60, 32] ++ a ++ [10] ++ closed c.ours ++ [61, 61, 61, 61, 61, 61, 61, 10] ++ closed c.theirs ++ [62, 62, 62, 62, 62, 62, 62, 32] ++ b ++ [10]
end Go.P
end

section
namespace Go.V
open Go.RowKit
open Go.P hiding Str
/-- a chunk, with its places -/
structure Ck where
  base : Sv Str
  ours : Sv Str
  theirs : Sv Str
  clash : Bool
  out : Sv Str
@[reducible] def Ck.m (x : Ck) : Mo := x.base.ok.and (x.ours.ok.and (x.theirs.ok.and x.out.ok))
instance : Dat Ck := ⟨5, fun e => [e.base.val, e.ours.val, e.theirs.val, .bool e.clash, e.out.val], fun _ => rfl, fun _ u h => by simp at h; rcases h with h | h | h | h | h <;> subst h <;> rfl, Ck.m⟩
def Ck.pl (x : Ck) : Chunk := ⟨x.base.l, x.ours.l, x.theirs.l, x.clash, x.out.l⟩
end Go.V
namespace Go.V
/-- the slices of a chunk that still grows -/
def OpenO (op : Bool) (x : Ck) : Ow := match op with
  | true => Ow.star (x.base.own 9) (Ow.star (x.ours.own 9) (Ow.star (x.theirs.own 9) (x.out.own 9)))
  | false => Ow.emp
end Go.V
end

section
namespace Go.Proofs.Ytmkncbldffncpaa
open Go.RowKit Go.V
open Go.P hiding Str
theorem sz34 : (Try.prog.info? 34).map (·.size) = some 5 := by kernel_rfl
theorem fa34_4 : FieldAt Try.prog 34 4 4 := fieldAt_sz (n := 0) (f := ⟨_, _, 4, _, _, _, _⟩) Try.underlying34 rfl (by kernel_rfl)
theorem sz28 : (Try.prog.info? 28).map (·.size) = some 1 := by kernel_rfl
theorem agg34 : AggOf Try.prog 34 5 := aggOf_of Try.underlying34 rfl (by kernel_rfl)
theorem fa34_3 : FieldAt Try.prog 34 3 3 := fieldAt_sz (n := 0) (f := ⟨_, _, 3, _, _, _, _⟩) Try.underlying34 rfl (by kernel_rfl)
theorem sz4 : (Try.prog.info? 4).map (·.size) = some 1 := by kernel_rfl
set_option maxRecDepth 100000 in
theorem gap_ct (a b d : Sv Str) (ha : a.l.length ≤ 1048576) (hb : b.l.length ≤ 1048576) (hd : d.l.length ≤ 1048576) :
    Ct Try.prog 37 [a.val, b.val, d.val] (a.ok.and (b.ok.and d.ok)) Ow.emp (X := Ck) (fun x => .agg (Dat.enc x).toArray) (fun x => x.pl = gapv a.l b.l d.l) (fun x => x.m) (fun _ => Ow.emp) := by
  refine Ct.of Try.func37 rfl (by kernel_rfl) Try.ntmps37 (by simp) fun c => ?_
  refine VC.seq ?_
  refine VC.region ?_
  refine VL.alloc (cs := [.slice none 0 0, .slice none 0 0, .slice none 0 0, .bool false, .slice none 0 0]) (by kernel_rfl) (by decide) fun b6 => ?_
  refine VL.to (fun _ _ h => h) ?_
  refine VC.seq ?_
  refine VC.region ?_
  refine VL.q (q_move rfl) (by decide) ?_
  refine VL.callF (some_ct a (by first | assumption | omega)) rfl (by decide) ?_
  rintro s9 hs9
  refine VL.q (q_move rfl) (by decide) ?_
  refine VL.callF (some_ct b (by first | assumption | omega)) rfl (by decide) ?_
  rintro s11 hs11
  refine VL.q (q_move rfl) (by decide) ?_
  refine VL.callF (some_ct d (by first | assumption | omega)) rfl (by decide) ?_
  rintro s13 hs13
  refine VL.q (q_build (vs := [(0, s9.val), (1, s11.val), (2, s13.val)]) (cs := #[s9.val, s11.val, s13.val, .bool false, .slice none 0 0]) rfl (by kernel_rfl)) (by decide) ?_
  refine VL.alloc (cs := [.slice none 0 0, .slice none 0 0, .slice none 0 0, .bool false, .slice none 0 0]) (by kernel_rfl) (by decide) fun b7 => ?_
  refine VL.store (vc := [s9.val, s11.val, s13.val, .bool false, .slice none 0 0]) (cs' := [s9.val, s11.val, s13.val, .bool false, .slice none 0 0]) rfl rfl rfl sz34 rfl rfl (Nat.le_of_ble_eq_true rfl) rfl ?_
  refine VL.to (fun _ _ h => h) ?_
  refine VC.seq ?_
  refine VC.block ?_
  refine VC.seq ?_
  refine VC.region ?_
  refine VL.q (q_move rfl) (by decide) ?_
  refine VL.q (q_move rfl) (by decide) ?_
  refine VL.q (q_call (equal_ct b a) rfl (fun _ _ => rfl)) (by decide) ?_
  refine VL.q (q_assign rfl) (by decide) ?_
  refine VL.to (fun _ _ h => h) ?_
  refine VC.cond_dec rfl (fun h16 => ?_) (fun h16 => ?_)
  · -- then of 16
    refine VC.region ?_
    refine VL.q (q_move rfl) (by decide) ?_
    refine VL.callF (some_ct d (by first | assumption | omega)) rfl (by decide) ?_
    rintro s21 hs21
    refine VL.q (q_field fa34_4 rfl) (by decide) ?_
    refine VL.store (vc := [s21.val]) (cs' := [s9.val, s11.val, s13.val, .bool false, s21.val]) rfl rfl rfl sz28 rfl rfl (Nat.le_of_ble_eq_true rfl) rfl ?_
    refine VL.to (fun _ _ h => h) ?_
    refine VC.seq ?_
    refine VC.region ?_
    refine VL.q (q_fes agg34 rfl rfl) (by decide) ?_
    refine VL.store (vc := [s9.val, s11.val, s13.val, .bool false, s21.val]) (cs' := [s9.val, s11.val, s13.val, .bool false, s21.val]) rfl rfl rfl sz34 rfl rfl (Nat.le_of_ble_eq_true rfl) rfl ?_
    refine VL.to (fun _ _ h => h) ?_
    exact VC.ret (finC (cs := [s9.val, s11.val, s13.val, .bool false, s21.val]) (.inr rfl) rfl agg34 rfl rfl Rd.blk ⟨s9, s11, s13, false, s21⟩ rfl ((by simp [Ck.pl, gapv, *])) (fun h m => InM.out h m) (fun _ _ => trivial))
  · -- else of 16
    refine VC.seq ?_
    refine VC.seq ?_
    refine VC.region ?_
    refine VL.q (q_move rfl) (by decide) ?_
    refine VL.q (q_move rfl) (by decide) ?_
    refine VL.q (q_call (equal_ct d a) rfl (fun _ _ => rfl)) (by decide) ?_
    refine VL.q (q_assign rfl) (by decide) ?_
    refine VL.to (fun _ _ h => h) ?_
    refine VC.cond_dec rfl (fun h23 => ?_) (fun h23 => ?_)
    · -- then of 23
      refine VC.setv 23 rfl (congrArg Value.bool (decide_eq_true h23)) ?_
      refine VC.skip_to (fun _ _ h => h) ?_
      refine VC.cond_t rfl ?_
      refine VC.region ?_
      refine VL.q (q_move rfl) (by decide) ?_
      refine VL.callF (some_ct b (by first | assumption | omega)) rfl (by decide) ?_
      rintro s31 hs31
      refine VL.q (q_field fa34_4 rfl) (by decide) ?_
      refine VL.store (vc := [s31.val]) (cs' := [s9.val, s11.val, s13.val, .bool false, s31.val]) rfl rfl rfl sz28 rfl rfl (Nat.le_of_ble_eq_true rfl) rfl ?_
      refine VL.to (fun _ _ h => h) ?_
      refine VC.seq ?_
      refine VC.region ?_
      refine VL.q (q_fes agg34 rfl rfl) (by decide) ?_
      refine VL.store (vc := [s9.val, s11.val, s13.val, .bool false, s31.val]) (cs' := [s9.val, s11.val, s13.val, .bool false, s31.val]) rfl rfl rfl sz34 rfl rfl (Nat.le_of_ble_eq_true rfl) rfl ?_
      refine VL.to (fun _ _ h => h) ?_
      exact VC.ret (finC (cs := [s9.val, s11.val, s13.val, .bool false, s31.val]) (.inr rfl) rfl agg34 rfl rfl Rd.blk ⟨s9, s11, s13, false, s31⟩ rfl ((by simp [Ck.pl, gapv, *])) (fun h m => InM.out h m) (fun _ _ => trivial))
    · -- else of 23
      refine VC.setv 23 rfl (congrArg Value.bool (decide_eq_false h23)) ?_
      refine VC.region ?_
      refine VL.q (q_move rfl) (by decide) ?_
      refine VL.q (q_move rfl) (by decide) ?_
      refine VL.q (q_call (equal_ct b d) rfl (fun _ _ => rfl)) (by decide) ?_
      refine VL.q (q_assign rfl) (by decide) ?_
      refine VL.to (fun _ _ h => h) ?_
      refine VC.cond_dec rfl (fun h23 => ?_) (fun h23 => ?_)
      · -- then of 23
        refine VC.setv 23 rfl (congrArg Value.bool (decide_eq_true h23)) ?_
        refine VC.region ?_
        refine VL.q (q_move rfl) (by decide) ?_
        refine VL.callF (some_ct b (by first | assumption | omega)) rfl (by decide) ?_
        rintro s31 hs31
        refine VL.q (q_field fa34_4 rfl) (by decide) ?_
        refine VL.store (vc := [s31.val]) (cs' := [s9.val, s11.val, s13.val, .bool false, s31.val]) rfl rfl rfl sz28 rfl rfl (Nat.le_of_ble_eq_true rfl) rfl ?_
        refine VL.to (fun _ _ h => h) ?_
        refine VC.seq ?_
        refine VC.region ?_
        refine VL.q (q_fes agg34 rfl rfl) (by decide) ?_
        refine VL.store (vc := [s9.val, s11.val, s13.val, .bool false, s31.val]) (cs' := [s9.val, s11.val, s13.val, .bool false, s31.val]) rfl rfl rfl sz34 rfl rfl (Nat.le_of_ble_eq_true rfl) rfl ?_
        refine VL.to (fun _ _ h => h) ?_
        exact VC.ret (finC (cs := [s9.val, s11.val, s13.val, .bool false, s31.val]) (.inr rfl) rfl agg34 rfl rfl Rd.blk ⟨s9, s11, s13, false, s31⟩ rfl ((by simp [Ck.pl, gapv, *])) (fun h m => InM.out h m) (fun _ _ => trivial))
      · -- else of 23
        refine VC.setv 23 rfl (congrArg Value.bool (decide_eq_false h23)) ?_
        refine VC.region ?_
        refine VL.q (q_field fa34_3 rfl) (by decide) ?_
        refine VL.store (vc := [.bool true]) (cs' := [s9.val, s11.val, s13.val, .bool true, .slice none 0 0]) rfl rfl rfl sz4 rfl rfl (Nat.le_of_ble_eq_true rfl) rfl ?_
        refine VL.to (fun _ _ h => h) ?_
        refine VC.seq ?_
        refine VC.region ?_
        refine VL.q (q_fes agg34 rfl rfl) (by decide) ?_
        refine VL.store (vc := [s9.val, s11.val, s13.val, .bool true, .slice none 0 0]) (cs' := [s9.val, s11.val, s13.val, .bool true, .slice none 0 0]) rfl rfl rfl sz34 rfl rfl (Nat.le_of_ble_eq_true rfl) rfl ?_
        refine VL.to (fun _ _ h => h) ?_
        exact VC.ret (finC (cs := [s9.val, s11.val, s13.val, .bool true, .slice none 0 0]) (.inr rfl) rfl agg34 rfl rfl Rd.blk ⟨s9, s11, s13, true, ⟨none, 0, []⟩⟩ rfl ((by simp [Ck.pl, gapv, *])) (fun h m => InM.out h m) (fun _ _ => trivial))

end Go.Proofs.Ytmkncbldffncpaa
end

section
namespace Go.P
def spl : Str → List Str
  | [] => []
  | c :: r => if c = 10 then [10] :: spl r else match spl r with
    | [] => [[c]]
    | l :: t => (c :: l) :: t
theorem spl_nl (r : Str) : spl (10 :: r) = [10] :: spl r := by simp [spl]
theorem spl_cons {c : UInt8} {r l : Str} {t : List Str} (h : c ≠ 10) (e : spl r = l :: t) : spl (c :: r) = (c :: l) :: t := by simp [spl, h, e]
theorem spl_app : ∀ (p r : Str), 10 ∉ p → spl (p ++ 10 :: r) = (p ++ [10]) :: spl r
  | [], r, _ => by simp [spl]
  | c :: p, r, h => by
    have h1 : c ≠ 10 := fun e => h (by simp [e])
    have h2 : 10 ∉ p := fun e => h (List.mem_cons_of_mem _ e)
    exact spl_cons h1 (spl_app p r h2)
theorem spl_last : ∀ (p : Str), 10 ∉ p → p ≠ [] → spl p = [p]
  | [], _, h => absurd rfl h
  | [c], h, _ => by
    have h1 : c ≠ 10 := fun e => h (by simp [e])
    simp [spl, h1]
  | c :: d :: p, h, _ => by
    have h1 : c ≠ 10 := fun e => h (by simp [e])
    have h2 : 10 ∉ d :: p := fun e => h (List.mem_cons_of_mem _ e)
    exact spl_cons h1 (spl_last (d :: p) h2 (by simp))
theorem idx_cons (c : UInt8) (r : Str) : Lib.indexByte (c :: r) 10 = if c = 10 then 0 else if Lib.indexByte r 10 = -1 then -1 else Lib.indexByte r 10 + 1 := by
  simp [Lib.indexByte]
theorem idx_facts : ∀ (s : Str), -1 ≤ Lib.indexByte s 10 ∧ (Lib.indexByte s 10 < s.length)
  | [] => by simp [Lib.indexByte]
  | c :: r => by
    have := idx_facts r
    rw [idx_cons]
    simp only [List.length_cons]
    split
    · omega
    · split <;> omega
/-- the first line, and the rest -/
theorem spl_cut : ∀ (s : Str), s ≠ [] → ∀ i : Int, (i = Lib.indexByte s 10 ∧ ¬ Lib.indexByte s 10 < 0 ∨ i = s.length - 1 ∧ Lib.indexByte s 10 < 0) → spl s = s.take (i + 1).toNat :: spl (s.drop (i + 1).toNat)
  | [], h, _, _ => absurd rfl h
  | c :: r, _, i, hi => by
    have hf := idx_facts r
    rw [idx_cons] at hi
    by_cases hc : c = 10
    · subst hc
      simp only [if_true] at hi
      have : i = 0 := by omega
      subst this
      simp [spl]
    · simp only [hc, if_false] at hi
      by_cases hr : r = []
      · subst hr
        simp [Lib.indexByte] at hi
        subst hi
        simp [spl, hc]
      · have hlen : 0 < r.length := List.length_pos_iff.2 hr
        have ih := spl_cut r hr (i - 1) (by
          by_cases hq : Lib.indexByte r 10 = -1
          · simp only [hq, if_true, List.length_cons] at hi ⊢; omega
          · simp only [hq, if_false] at hi; omega)
        have h0 : 0 ≤ i - 1 := by
          by_cases hq : Lib.indexByte r 10 = -1
          · simp only [hq, if_true, List.length_cons] at hi; omega
          · simp only [hq, if_false] at hi; omega
        rw [show (i - 1 + 1).toNat = i.toNat by omega] at ih
        rw [show (i + 1).toNat = i.toNat + 1 by omega]
        simpa using spl_cons hc ih
theorem split_step {s s0 : Str} {i : Int} {o p q : List Str} (hs : s ≠ []) (hi : i = Lib.indexByte s 10 ∧ ¬ Lib.indexByte s 10 < 0 ∨ i = s.length - 1 ∧ Lib.indexByte s 10 < 0) (ho : o ++ spl s = spl s0) (hp : p = [s.take (i + 1).toNat]) (hq : q = o ++ p) : q ++ spl (s.drop (i + 1).toNat) = spl s0 := by
  rw [hq, hp, ← ho, spl_cut s hs i hi, List.append_assoc]; rfl
/-! the reference's -/
theorem ref_nl {s : Str} {i f : Int} {u : UInt8} {o p q : List Str} (hf : 0 ≤ f) (hfi : f ≤ i) (hu : s[i.toNat]? = some u) (h10 : (u.toNat : Int) = 10) (hn : 10 ∉ (s.drop f.toNat).take (i.toNat - f.toNat)) (ho : o ++ spl (s.drop f.toNat) = spl s)
    (hp : p = [(s.drop f.toNat).take ((i + 1).toNat - f.toNat)]) (hq : q = o ++ p) : q ++ spl (s.drop (i + 1).toNat) = spl s := by
  obtain ⟨hlt, hu'⟩ := List.getElem?_eq_some_iff.1 hu
  have hu10 : u = 10 := by
    apply UInt8.toNat_inj.1
    have : (10 : UInt8).toNat = 10 := rfl
    omega
  have e1 : (i + 1).toNat = i.toNat + 1 := by omega
  have e2 : s.drop f.toNat = (s.drop f.toNat).take (i.toNat - f.toNat) ++ 10 :: s.drop (i.toNat + 1) := by
    have : s.drop i.toNat = 10 :: s.drop (i.toNat + 1) := by rw [List.drop_eq_getElem_cons hlt, hu', hu10]
    rw [← this]
    have h := List.take_append_drop (i.toNat - f.toNat) (s.drop f.toNat)
    rw [List.drop_drop, show f.toNat + (i.toNat - f.toNat) = i.toNat by omega] at h
    exact h.symm
  have e3 : (s.drop f.toNat).take (i.toNat + 1 - f.toNat) = (s.drop f.toNat).take (i.toNat - f.toNat) ++ [10] := by
    have hl : ((s.drop f.toNat).take (i.toNat - f.toNat)).length = i.toNat - f.toNat := by simp; omega
    generalize (s.drop f.toNat).take (i.toNat - f.toNat) = pp at *
    rw [e2, List.take_append, hl, show i.toNat + 1 - f.toNat - (i.toNat - f.toNat) = 1 by omega, List.take_of_length_le (by omega)]
    rfl
  rw [hq, hp, ← ho, e1, e3, List.append_assoc]
  congr 1
  conv => rhs; rw [e2]
  rw [spl_app _ _ hn]
  rfl
theorem ref_no {s : Str} {i f : Int} {u : UInt8} (hf : 0 ≤ f) (hfi : f ≤ i) (hu : s[i.toNat]? = some u) (h10 : ¬ (u.toNat : Int) = 10) (hn : 10 ∉ (s.drop f.toNat).take (i.toNat - f.toNat)) : 10 ∉ (s.drop f.toNat).take ((i + 1).toNat - f.toNat) := by
  obtain ⟨hlt, hu'⟩ := List.getElem?_eq_some_iff.1 hu
  rw [show (i + 1).toNat - f.toNat = (i.toNat - f.toNat) + 1 by omega, List.take_add_one]
  have : (s.drop f.toNat)[i.toNat - f.toNat]? = some u := by rw [List.getElem?_drop, show f.toNat + (i.toNat - f.toNat) = i.toNat by omega, hu]
  rw [this]
  simp only [Option.toList_some, List.mem_append, List.mem_singleton, not_or]
  refine ⟨hn, fun e => h10 ?_⟩
  rw [← e]; rfl
theorem ref_end {s : Str} {i f : Int} {o p q : List Str} (hi : ¬ i < s.length) (hf : 0 ≤ f) (hfs : f < s.length) (hn : 10 ∉ (s.drop f.toNat).take (i.toNat - f.toNat)) (ho : o ++ spl (s.drop f.toNat) = spl s) (hp : p = [s.drop f.toNat]) (hq : q = o ++ p) : q = spl s := by
  rw [List.take_of_length_le (by simp; omega)] at hn
  rw [hq, hp, ← ho, spl_last _ hn (by intro h; have := congrArg List.length h; simp at this; omega)]
theorem ref_end0 {s : Str} {f : Int} {o : List Str} (hf : ¬ f < s.length) (ho : o ++ spl (s.drop f.toNat) = spl s) : o = spl s := by
  rw [← ho, List.drop_eq_nil_of_le (by omega)]; simp [spl]
theorem join_flat (l : List Str) : join l = l.flatten := by
  induction l with
  | nil => rfl
  | cons x r ih => simp [join, ih]
theorem join_spl : ∀ s : Str, join (spl s) = s
  | [] => rfl
  | c :: r => by
    have ih := join_spl r
    by_cases hc : c = 10
    · subst hc; rw [spl_nl]; simp [join, ih]
    · cases hr : spl r with
      | nil => rw [hr] at ih; simp [join] at ih; subst ih; simp [spl, hc, join]
      | cons l t => rw [spl_cons hc hr]; rw [hr] at ih; simp [join] at ih ⊢; exact ih
end Go.P
end

section
namespace Go.Proofs.Ytmkncbldffncpaa
open Go.RowKit Go.V
open Go.P hiding Str
theorem join_ct (s : Sv Str) (hs : s.l.length ≤ 1048576) (hl : (join s.l).length ≤ 140737488355328) : Ct Try.prog 34 [s.val, str []] s.ok Ow.emp (X := Unit) (fun _ => str (join s.l)) (fun _ => True) (fun _ => Mo.tt) (fun _ => Ow.emp) :=
  Ct.of_gr (entry_of Try.func34 rfl (by kernel_rfl)) fun w h m l => by
  by_cases hn : s.l = []
  · refine Go.V.Calls.mono' (Try.strings_Join_none s.a s.c ⟨⟨[]⟩⟩ w) ?_ ?_
    · simp [Sv.val, hn]
    · rintro e w' ⟨h1, h2⟩
      exact ⟨by rw [h1, hn]; rfl, h2 ▸ Gr.refl w⟩
  · have ha := m.2.2.1 hn
    have hc : ∀ (j : Nat) x, (s.l.map fun z => (⟨⟨z⟩⟩ : ByteArray))[j]? = some x → w.cell? ⟨s.b, s.o + j, none⟩ = some (.string x) := fun j x hx => by
      rw [List.getElem?_map] at hx
      cases hz : s.l[j]? with
      | none => rw [hz] at hx; cases hx
      | some z =>
        rw [hz] at hx
        cases hx
        have := m.2.2.2.1 j z hz 0 (str z) rfl
        exact cell_of_le l (by simpa [Dat.sz] using this)
    have hmap : (s.l.map fun z => (⟨⟨z⟩⟩ : ByteArray)).map (·.data.toList) = s.l := by simp [Function.comp_def]
    have hj : Lib.join ((s.l.map fun z => (⟨⟨z⟩⟩ : ByteArray)).map (·.data.toList)) ([] : List UInt8) = join s.l := by
      rw [hmap, join_flat]
      cases s.l with
      | nil => rfl
      | cons x r => rw [Lib.join_cons]; simp [Lib.joinTail]
    have hb : s.b < w.heap.size := by
      obtain ⟨z, hz⟩ : ∃ z, s.l[0]? = some z := ⟨_, List.getElem?_eq_getElem (List.length_pos_iff.2 hn)⟩
      have := hc 0 ⟨⟨z⟩⟩ (by rw [List.getElem?_map, hz]; rfl)
      unfold World.cell? at this
      cases hh : w.heap[s.b]? with
      | none => simp [hh] at this
      | some o => exact (Array.getElem?_eq_some_iff.1 hh).1
    have := Try.strings_Join s.b s.o s.c (s.l.map fun z => (⟨⟨z⟩⟩ : ByteArray)) ⟨⟨[]⟩⟩ w hc hb (by simp; omega) (by simpa using m.1) (by rw [show ((⟨⟨[]⟩⟩ : ByteArray).data.toList) = [] from rfl, hj]; exact hl)
    rw [show ((⟨⟨[]⟩⟩ : ByteArray).data.toList) = [] from rfl, hj] at this
    refine Go.V.Calls.mono' this ?_ ?_
    · simp [Sv.val, ha]
    · rintro e w' ⟨h1, h2⟩
      exact ⟨by rw [h1], Gr.of_below h2⟩
theorem index_ct (s : Str) : Ct Try.prog 31 [str s, str [10]] Mo.tt Ow.emp (X := Unit) (fun _ => i64 (Lib.indexByte s 10)) (fun _ => True) (fun _ => Mo.tt) (fun _ => Ow.emp) :=
  Ct.of_gr (entry_of Try.func31 rfl (by kernel_rfl)) fun w h _ _ => (Try.strings_Index_one ⟨⟨s⟩⟩ 10 w).mono fun e w' ⟨h1, h2⟩ => ⟨h1, h2 ▸ Gr.refl w⟩

end Go.Proofs.Ytmkncbldffncpaa
end

section
namespace Go.Proofs.Ytmkncbldffncpaa
open Go.RowKit Go.V
open Go.P hiding Str
theorem lit9 : ((Try.prog.info? 9).map fun i => (i.size, i.zero.isSome)) = some (1, true) := by kernel_rfl
set_option maxRecDepth 100000 in
theorem split_ct (s0 : Str) (hs0 : s0.length ≤ 1048576) :
    Ct Try.prog 16 [str s0] Mo.tt Ow.emp (X := Sv Str) Sv.val (fun q => q.l = spl s0) (fun q => q.ok) (fun _ => Ow.emp) := by
  refine Ct.of Try.func16 rfl (by kernel_rfl) Try.ntmps16 (by simp) fun c => ?_
  refine VC.seq ?_
  refine VC.region ?_
  refine VL.q (q_assign rfl) (by decide) ?_
  refine VL.to (fun _ _ h => h) ?_
  refine VC.seq ?_
  refine VC.region ?_
  refine VL.q (q_assign rfl) (by decide) ?_
  refine VL.to (fun _ _ h => h) ?_
  refine VC.seq ?_
  refine VC.block ?_
  refine VC.nilO (⟨none, 0, []⟩ : Sv Str) 9 ⟨rfl, rfl⟩ ?_
  refine VC.loopK (S := Str × Sv Str) (fun sg => sg.2.l ++ spl sg.1 = spl s0 ∧ sg.2.l.length + sg.1.length ≤ s0.length) (fun sg => [(2, .slice none 0 0), (0, str sg.1), (3, sg.2.val)]) (fun sg => Ow.star (Sv.own sg.2 9) (Ow.emp)) (fun sg => sg.1.length) (s0, ⟨none, 0, []⟩) [2, 0, 3] (by (try dsimp only); exact ⟨rfl, by simp⟩) rfl (by (try dsimp only); exact EntO.out) ?_
  rintro ⟨s, o⟩ hI
  show VC _ _ _ _ _ [(2, .slice none 0 0), (0, str s), (3, o.val)] _ (Ow.star (Sv.own o 9) (Ow.emp))
  try dsimp only at hI
  obtain ⟨ho, hlen⟩ := hI
  refine VC.seq ?_
  refine VC.seq ?_
  refine VC.region ?_
  refine VL.q (q_move rfl) (by decide) ?_
  refine VL.q (q_sne rfl rfl) (by decide) ?_
  refine VL.to (fun _ _ h => h) ?_
  refine VC.cond_ndec rfl (fun h6 => ?_) (fun h6 => ?_)
  · -- then of 6
    refine VC.skip_to (fun _ _ h => h) ?_
    refine VC.block ?_
    refine VC.seq ?_
    refine VC.region ?_
    refine VL.q (q_move rfl) (by decide) ?_
    refine VL.q (q_call (index_ct s) rfl (fun _ _ => rfl)) (by decide) ?_
    refine VL.q (q_assign rfl) (by decide) ?_
    refine VL.to (fun _ _ h => h) ?_
    refine VC.seq ?_
    refine VC.seq ?_
    obtain ⟨f1, f2⟩ := idx_facts s
    have f3 : 0 < s.length := List.length_pos_iff.2 h6
    refine VC.region ?_
    refine VL.q (q_move rfl) (by decide) ?_
    refine VL.q (q_lss rfl rfl) (by decide) ?_
    refine VL.to (fun _ _ h => h) ?_
    refine VC.cond_dec rfl (fun h10 => ?_) (fun h10 => ?_)
    · -- then of 10
      refine VC.region ?_
      refine VL.q (q_move rfl) (by decide) ?_
      refine VL.q (q_slen Try.underlying9 rfl) (by decide) ?_
      refine VL.q (q_sub rfl rfl ⟨by omega, by omega⟩) (by decide) ?_
      refine VL.q (q_assign rfl) (by decide) ?_
      refine VL.to (fun _ _ h => h) ?_
      refine VC.seq ?_
      refine VC.region ?_
      refine VL.q (q_move rfl) (by decide) ?_
      refine VL.q (q_move rfl) (by decide) ?_
      refine VL.q (q_move rfl) (by decide) ?_
      refine VL.q (q_add rfl rfl ⟨by omega, by omega⟩) (by decide) ?_
      refine VL.q (q_sto Try.underlying9 rfl rfl (by omega) (by omega)) (by decide) ?_
      refine VL.lit (α := Str) (xs := [.tmp 18]) (vs := [str (s.take ((((s.length : Int) - 1) + 1)).toNat)]) [(s.take ((((s.length : Int) - 1) + 1)).toNat)] Try.underlying28 lit9 (by decide) rfl rfl rfl rfl (by decide) (fun _ _ _ _ => trivial) (by decide) (fun s19 hs19 => ?_) (by decide)
      refine VL.app (s := o) (r := s19) Try.underlying28 app9 (by decide) rfl Fo.out (by rw [hs19]; simp; omega) (by rw [hs19]; simp; omega) (by decide) (fun s20 hs20 => ?_)
      refine VL.q (q_assign rfl) (by decide) ?_
      refine VL.to (fun _ _ h => h) ?_
      refine VC.region ?_
      refine VL.q (q_move rfl) (by decide) ?_
      refine VL.q (q_move rfl) (by decide) ?_
      refine VL.q (q_add rfl rfl ⟨by omega, by omega⟩) (by decide) ?_
      refine VL.q (q_sfrom Try.underlying9 rfl rfl (by omega) (by omega)) (by decide) ?_
      refine VL.q (q_assign rfl) (by decide) ?_
      refine VL.anyI ((s.drop ((((s.length : Int) - 1) + 1)).toNat), s20) [2, 0, 3] (fun _ _ h => h) ?_ rfl (by (try dsimp only); exact EntO.out)
      try dsimp only
      have e1 : s20.l.length = o.l.length + 1 := by rw [hs20, hs19]; simp
      first
        | exact ⟨⟨split_step h6 (.inl ⟨rfl, h10⟩) ho hs19 hs20, by simp; omega⟩, by simp; omega⟩
        | exact ⟨⟨split_step h6 (.inr ⟨rfl, h10⟩) ho hs19 hs20, by simp; omega⟩, by simp; omega⟩
    · -- else of 10
      refine VC.skip_to (fun _ _ h => h) ?_
      refine VC.seq ?_
      refine VC.region ?_
      refine VL.q (q_move rfl) (by decide) ?_
      refine VL.q (q_move rfl) (by decide) ?_
      refine VL.q (q_move rfl) (by decide) ?_
      refine VL.q (q_add rfl rfl ⟨by omega, by omega⟩) (by decide) ?_
      refine VL.q (q_sto Try.underlying9 rfl rfl (by omega) (by omega)) (by decide) ?_
      refine VL.lit (α := Str) (xs := [.tmp 18]) (vs := [str (s.take (((Lib.indexByte s 10) + 1)).toNat)]) [(s.take (((Lib.indexByte s 10) + 1)).toNat)] Try.underlying28 lit9 (by decide) rfl rfl rfl rfl (by decide) (fun _ _ _ _ => trivial) (by decide) (fun s19 hs19 => ?_) (by decide)
      refine VL.app (s := o) (r := s19) Try.underlying28 app9 (by decide) rfl Fo.out (by rw [hs19]; simp; omega) (by rw [hs19]; simp; omega) (by decide) (fun s20 hs20 => ?_)
      refine VL.q (q_assign rfl) (by decide) ?_
      refine VL.to (fun _ _ h => h) ?_
      refine VC.region ?_
      refine VL.q (q_move rfl) (by decide) ?_
      refine VL.q (q_move rfl) (by decide) ?_
      refine VL.q (q_add rfl rfl ⟨by omega, by omega⟩) (by decide) ?_
      refine VL.q (q_sfrom Try.underlying9 rfl rfl (by omega) (by omega)) (by decide) ?_
      refine VL.q (q_assign rfl) (by decide) ?_
      refine VL.anyI ((s.drop (((Lib.indexByte s 10) + 1)).toNat), s20) [2, 0, 3] (fun _ _ h => h) ?_ rfl (by (try dsimp only); exact EntO.out)
      try dsimp only
      have e1 : s20.l.length = o.l.length + 1 := by rw [hs20, hs19]; simp
      first
        | exact ⟨⟨split_step h6 (.inl ⟨rfl, h10⟩) ho hs19 hs20, by simp; omega⟩, by simp; omega⟩
        | exact ⟨⟨split_step h6 (.inr ⟨rfl, h10⟩) ho hs19 hs20, by simp; omega⟩, by simp; omega⟩
  · -- else of 6
    refine VC.exit_to (fun _ _ h => h) ?_
    refine VC.seq ?_
    refine VC.shut o 9 (fun _ _ _ _ => trivial) ?_
    refine VC.region ?_
    refine VL.q (q_move rfl) (by decide) ?_
    refine VL.callF (clip_ct o) rfl (by decide) ?_
    rintro s26 hs26
    refine VL.q (q_assign rfl) (by decide) ?_
    refine VL.to (fun _ _ h => h) ?_
    exact VC.ret (fin1I (.inr rfl) rfl rfl s26 rfl ((by rw [hs26, ← ho, h6]; simp [spl])) (fun _ _ => trivial))

set_option maxRecDepth 100000 in
theorem rsplit_ct (s : Str) (hs : s.length ≤ 1048576) :
    Ct Try.prog 13 [str s] Mo.tt Ow.emp (X := Sv Str) Sv.val (fun q => q.l = spl s) (fun q => q.ok) (fun _ => Ow.emp) := by
  refine Ct.of Try.func13 rfl (by kernel_rfl) Try.ntmps13 (by simp) fun c => ?_
  refine VC.seq ?_
  refine VC.region ?_
  refine VL.q (q_assign rfl) (by decide) ?_
  refine VL.to (fun _ _ h => h) ?_
  refine VC.seq ?_
  refine VC.region ?_
  refine VL.q (q_assign rfl) (by decide) ?_
  refine VL.to (fun _ _ h => h) ?_
  refine VC.seq ?_
  refine VC.region ?_
  refine VL.q (q_assign rfl) (by decide) ?_
  refine VL.to (fun _ _ h => h) ?_
  refine VC.seq ?_
  refine VC.seq ?_
  refine VC.region ?_
  refine VL.q (q_assign rfl) (by decide) ?_
  refine VL.to (fun _ _ h => h) ?_
  refine VC.block ?_
  refine VC.nilO (⟨none, 0, []⟩ : Sv Str) 9 ⟨rfl, rfl⟩ ?_
  refine VC.loopK (S := Int × Int × Sv Str) (fun sg => 0 ≤ sg.2.1 ∧ sg.2.1 ≤ sg.1 ∧ sg.1 ≤ s.length ∧ (sg.2.2.l.length : Int) ≤ sg.1 ∧ 10 ∉ (s.drop sg.2.1.toNat).take (sg.1.toNat - sg.2.1.toNat) ∧ sg.2.2.l ++ spl (s.drop sg.2.1.toNat) = spl s) (fun sg => [(0, str s), (2, .slice none 0 0), (5, i64 sg.1), (4, i64 sg.2.1), (3, sg.2.2.val)]) (fun sg => Ow.star (Sv.own sg.2.2 9) (Ow.emp)) (fun sg => (s.length - sg.1).toNat) (0, 0, ⟨none, 0, []⟩) [0, 2, 5, 4, 3] (by (try dsimp only); exact ⟨by omega, by omega, by omega, by simp, by simp, rfl⟩) rfl (by (try dsimp only); exact EntO.out) ?_
  rintro ⟨i, f, o⟩ hI
  show VC _ _ _ _ _ [(0, str s), (2, .slice none 0 0), (5, i64 i), (4, i64 f), (3, o.val)] _ (Ow.star (Sv.own o 9) (Ow.emp))
  try dsimp only at hI
  obtain ⟨f0, f1, i1, hol, hn, ho⟩ := hI
  refine VC.seq ?_
  refine VC.seq ?_
  refine VC.region ?_
  refine VL.q (q_move rfl) (by decide) ?_
  refine VL.q (q_move rfl) (by decide) ?_
  refine VL.q (q_slen Try.underlying9 rfl) (by decide) ?_
  refine VL.q (q_lss rfl rfl) (by decide) ?_
  refine VL.to (fun _ _ h => h) ?_
  refine VC.cond_dec rfl (fun h9 => ?_) (fun h9 => ?_)
  · -- then of 9
    refine VC.skip_to (fun _ _ h => h) ?_
    refine VC.seq ?_
    refine VC.block ?_
    refine VC.seq ?_
    refine VC.region ?_
    refine VL.q (q_move rfl) (by decide) ?_
    refine VL.q (q_move rfl) (by decide) ?_
    obtain ⟨u14, hu14⟩ : ∃ z, (s)[(i).toNat]? = some z := ⟨_, List.getElem?_eq_getElem (by omega)⟩
    refine VL.q (q_sidx Try.underlying9 rfl rfl (by omega) hu14) (by decide) ?_
    refine VL.q (q_eql rfl rfl) (by decide) ?_
    refine VL.to (fun _ _ h => h) ?_
    refine VC.cond_dec rfl (fun h15 => ?_) (fun h15 => ?_)
    · -- then of 15
      refine VC.seq ?_
      refine VC.region ?_
      refine VL.q (q_move rfl) (by decide) ?_
      refine VL.q (q_move rfl) (by decide) ?_
      refine VL.q (q_move rfl) (by decide) ?_
      refine VL.q (q_move rfl) (by decide) ?_
      refine VL.q (q_add rfl rfl ⟨by omega, by omega⟩) (by decide) ?_
      refine VL.q (q_smid Try.underlying9 rfl rfl rfl (by omega) (by omega) (by omega)) (by decide) ?_
      refine VL.lit (α := Str) (xs := [.tmp 21]) (vs := [str ((s.drop (f).toNat).take (((i + 1)).toNat - (f).toNat))]) [((s.drop (f).toNat).take (((i + 1)).toNat - (f).toNat))] Try.underlying28 lit9 (by decide) rfl rfl rfl rfl (by decide) (fun _ _ _ _ => trivial) (by decide) (fun s22 hs22 => ?_) (by decide)
      refine VL.app (s := o) (r := s22) Try.underlying28 app9 (by decide) rfl Fo.out (by rw [hs22]; simp; omega) (by rw [hs22]; simp; omega) (by decide) (fun s23 hs23 => ?_)
      refine VL.q (q_assign rfl) (by decide) ?_
      refine VL.to (fun _ _ h => h) ?_
      refine VC.region ?_
      refine VL.q (q_move rfl) (by decide) ?_
      refine VL.q (q_add rfl rfl ⟨by omega, by omega⟩) (by decide) ?_
      refine VL.q (q_assign rfl) (by decide) ?_
      refine VL.to (fun _ _ h => h) ?_
      refine VC.region ?_
      refine VL.q (q_move rfl) (by decide) ?_
      refine VL.q (q_add rfl rfl ⟨by omega, by omega⟩) (by decide) ?_
      refine VL.q (q_assign rfl) (by decide) ?_
      refine VL.anyI ((i + 1), (i + 1), s23) [0, 2, 5, 4, 3] (fun _ _ h => h) ?_ rfl (by (try dsimp only); exact EntO.out)
      try dsimp only
      have e1 : s23.l.length = o.l.length + 1 := by rw [hs23, hs22]; simp
      exact ⟨⟨by omega, by omega, by omega, by omega, by simp, ref_nl f0 f1 hu14 (by assumption) hn ho hs22 hs23⟩, by omega⟩
    · -- else of 15
      refine VC.skip_to (fun _ _ h => h) ?_
      refine VC.region ?_
      refine VL.q (q_move rfl) (by decide) ?_
      refine VL.q (q_add rfl rfl ⟨by omega, by omega⟩) (by decide) ?_
      refine VL.q (q_assign rfl) (by decide) ?_
      refine VL.anyI ((i + 1), f, o) [0, 2, 5, 4, 3] (fun _ _ h => h) ?_ rfl (by (try dsimp only); exact EntO.out)
      try dsimp only
      exact ⟨⟨by omega, by omega, by omega, by omega, ref_no f0 f1 hu14 (by assumption) hn, ho⟩, by omega⟩
  · -- else of 9
    refine VC.exit_to (fun _ _ h => h) ?_
    refine VC.seq ?_
    refine VC.seq ?_
    refine VC.region ?_
    refine VL.q (q_move rfl) (by decide) ?_
    refine VL.q (q_move rfl) (by decide) ?_
    refine VL.q (q_slen Try.underlying9 rfl) (by decide) ?_
    refine VL.q (q_lss rfl rfl) (by decide) ?_
    refine VL.to (fun _ _ h => h) ?_
    refine VC.cond_dec rfl (fun h29 => ?_) (fun h29 => ?_)
    · -- then of 29
      refine VC.region ?_
      refine VL.q (q_move rfl) (by decide) ?_
      refine VL.q (q_move rfl) (by decide) ?_
      refine VL.q (q_move rfl) (by decide) ?_
      refine VL.q (q_sfrom Try.underlying9 rfl rfl (by omega) (by omega)) (by decide) ?_
      refine VL.lit (α := Str) (xs := [.tmp 33]) (vs := [str (s.drop (f).toNat)]) [(s.drop (f).toNat)] Try.underlying28 lit9 (by decide) rfl rfl rfl rfl (by decide) (fun _ _ _ _ => trivial) (by decide) (fun s34 hs34 => ?_) (by decide)
      refine VL.app (s := o) (r := s34) Try.underlying28 app9 (by decide) rfl Fo.out (by rw [hs34]; simp; omega) (by rw [hs34]; simp; omega) (by decide) (fun s35 hs35 => ?_)
      refine VL.q (q_assign rfl) (by decide) ?_
      refine VL.to (fun _ _ h => h) ?_
      refine VC.seq ?_
      refine VC.region ?_
      refine VL.q (q_move rfl) (by decide) ?_
      refine VL.q (q_assign rfl) (by decide) ?_
      refine VL.to (fun _ _ h => h) ?_
      refine VC.shut s35 9 (fun _ _ _ _ => trivial) ?_
      exact VC.ret (fin1I (.inr rfl) rfl rfl s35 rfl ((ref_end (by assumption) f0 (by assumption) hn ho hs34 hs35)) (fun _ _ => trivial))
    · -- else of 29
      refine VC.skip_to (fun _ _ h => h) ?_
      refine VC.seq ?_
      refine VC.region ?_
      refine VL.q (q_move rfl) (by decide) ?_
      refine VL.q (q_assign rfl) (by decide) ?_
      refine VL.to (fun _ _ h => h) ?_
      refine VC.shut o 9 (fun _ _ _ _ => trivial) ?_
      exact VC.ret (fin1I (.inr rfl) rfl rfl o rfl ((ref_end0 (by assumption) ho)) (fun _ _ => trivial))

set_option maxRecDepth 100000 in
theorem ljoin_ct (s : Sv Str) (hn : s.l.length ≤ 1048576) (hl : (join s.l).length ≤ 140737488355328) : Ct Try.prog 19 [s.val] s.ok Ow.emp (X := Unit) (fun _ => str (join s.l)) (fun _ => True) (fun _ => Mo.tt) (fun _ => Ow.emp) := by
  refine Ct.of Try.func19 rfl (by kernel_rfl) Try.ntmps19 (by simp) fun c => ?_
  refine VC.seq ?_
  refine VC.region ?_
  refine VL.q (q_assign rfl) (by decide) ?_
  refine VL.to (fun _ _ h => h) ?_
  refine VC.seq ?_
  refine VC.region ?_
  refine VL.q (q_move rfl) (by decide) ?_
  refine VL.q (q_call (join_ct s hn hl) rfl (fun _ _ => rfl)) (by decide) ?_
  refine VL.q (q_assign rfl) (by decide) ?_
  refine VL.to (fun _ _ h => h) ?_
  exact VC.ret (fin1I (.inr rfl) rfl rfl () rfl (trivial) (fun _ _ => trivial))

set_option maxRecDepth 100000 in
theorem closed_ct (s : Sv Str) (hn : s.l.length ≤ 1048576) (hl : (join s.l).length ≤ 1048576) : Ct Try.prog 33 [s.val] s.ok Ow.emp (X := Unit) (fun _ => str (closed s.l)) (fun _ => True) (fun _ => Mo.tt) (fun _ => Ow.emp) := by
  refine Ct.of Try.func33 rfl (by kernel_rfl) Try.ntmps33 (by simp) fun c => ?_
  refine VC.seq ?_
  refine VC.region ?_
  refine VL.q (q_assign rfl) (by decide) ?_
  refine VL.to (fun _ _ h => h) ?_
  refine VC.seq ?_
  refine VC.region ?_
  refine VL.q (q_move rfl) (by decide) ?_
  refine VL.q (q_call (ljoin_ct s (by first | assumption | omega) (by first | assumption | omega)) rfl (fun _ _ => rfl)) (by decide) ?_
  refine VL.q (q_assign rfl) (by decide) ?_
  refine VL.to (fun _ _ h => h) ?_
  refine VC.seq ?_
  refine VC.seq ?_
  refine VC.region ?_
  refine VL.q (q_move rfl) (by decide) ?_
  refine VL.q (q_call (whole_ct (join s.l) (by first | assumption | omega)) rfl (fun _ _ => rfl)) (by decide) ?_
  refine VL.q (q_not rfl) (by decide) ?_
  refine VL.to (fun _ _ h => h) ?_
  refine VC.cond rfl (fun h8 => ?_) (fun h8 => ?_)
  · -- then of 8
    refine VC.region ?_
    refine VL.q (q_move rfl) (by decide) ?_
    refine VL.q (q_cat rfl rfl (by simp; omega)) (by decide) ?_
    refine VL.q (q_assign rfl) (by decide) ?_
    refine VL.to (fun _ _ h => h) ?_
    refine VC.seq ?_
    refine VC.region ?_
    refine VL.q (q_move rfl) (by decide) ?_
    refine VL.q (q_assign rfl) (by decide) ?_
    refine VL.to (fun _ _ h => h) ?_
    exact VC.ret (fin1I (.inr rfl) rfl rfl () (congrArg str (by simp at h8; simp [P.closed, h8])) (trivial) (fun _ _ => trivial))
  · -- else of 8
    refine VC.skip_to (fun _ _ h => h) ?_
    refine VC.seq ?_
    refine VC.region ?_
    refine VL.q (q_move rfl) (by decide) ?_
    refine VL.q (q_assign rfl) (by decide) ?_
    refine VL.to (fun _ _ h => h) ?_
    exact VC.ret (fin1I (.inr rfl) rfl rfl () (congrArg str (by simp at h8; unfold P.closed; rw [if_pos]; by_cases q : join s.l = []; exact .inl q; exact .inr (List.isSuffixOf_iff_suffix.2 (h8 q)))) (trivial) (fun _ _ => trivial))

end Go.Proofs.Ytmkncbldffncpaa
end

section
namespace Go.Proofs.Ytmkncbldffncpaa
open Go.RowKit Go.V
open Go.P hiding Str
theorem fa54_3 : FieldAt Try.prog 54 3 3 := fieldAt_sz (n := 0) (f := ⟨_, _, 3, _, _, _, _⟩) Try.underlying54 rfl (by kernel_rfl)
theorem fa54_6 : FieldAt Try.prog 54 6 6 := fieldAt_sz (n := 0) (f := ⟨_, _, 6, _, _, _, _⟩) Try.underlying54 rfl (by kernel_rfl)
theorem one30 : OneCell Try.prog 30 := oneCell_of Try.underlying30 rfl
theorem fa54_0 : FieldAt Try.prog 54 0 0 := fieldAt_sz (n := 0) (f := ⟨_, _, 0, _, _, _, _⟩) Try.underlying54 rfl (by kernel_rfl)
theorem fa54_1 : FieldAt Try.prog 54 1 1 := fieldAt_sz (n := 0) (f := ⟨_, _, 1, _, _, _, _⟩) Try.underlying54 rfl (by kernel_rfl)
theorem fa54_4 : FieldAt Try.prog 54 4 4 := fieldAt_sz (n := 0) (f := ⟨_, _, 4, _, _, _, _⟩) Try.underlying54 rfl (by kernel_rfl)
theorem fa54_2 : FieldAt Try.prog 54 2 2 := fieldAt_sz (n := 0) (f := ⟨_, _, 2, _, _, _, _⟩) Try.underlying54 rfl (by kernel_rfl)
theorem fa54_5 : FieldAt Try.prog 54 5 5 := fieldAt_sz (n := 0) (f := ⟨_, _, 5, _, _, _, _⟩) Try.underlying54 rfl (by kernel_rfl)
theorem lit34 : ((Try.prog.info? 34).map fun i => (i.size, i.zero.isSome)) = some (5, true) := by kernel_rfl
theorem app34 : ((Try.prog.info? 34).map fun i => (i.size, i.bytes, (i.zero.map fun z => z.cells.size))) = some (5, 104, some 5) := by kernel_rfl
theorem sz30 : (Try.prog.info? 30).map (·.size) = some 1 := by kernel_rfl
theorem fa54_7 : FieldAt Try.prog 54 7 7 := fieldAt_sz (n := 0) (f := ⟨_, _, 7, _, _, _, _⟩) Try.underlying54 rfl (by kernel_rfl)
set_option maxRecDepth 100000 in
theorem upto_ct (p : Nat) (bv ov tv : Sv Str) (out : Sv Ck) (op : Bool) (i j k i' j' k' : Int) (hput : i < i' ∨ j < j' ∨ k < k') (i0 : 0 ≤ i) (i1 : i ≤ i') (i2 : i' ≤ bv.l.length) (j0 : 0 ≤ j) (j1 : j ≤ j') (j2 : j' ≤ ov.l.length) (k0 : 0 ≤ k) (k1 : k ≤ k') (k2 : k' ≤ tv.l.length) (hb : bv.l.length ≤ 256) (ho : ov.l.length ≤ 256) (ht : tv.l.length ≤ 256) (hl : out.l.length ≤ 1048576) :
    Ct Try.prog 22 [ptr p 0, i64 i', i64 j', i64 k'] (bv.ok.and (ov.ok.and tv.ok)) (Ow.star (Blk p [bv.val, ov.val, tv.val, i64 i, i64 j, i64 k, out.val, .bool op] 54) (out.own 34)) (X := Sv Ck × Ck) (fun _ => .tuple #[]) (fun x => x.1.l = out.l ++ [x.2] ∧ x.2.pl = gapv ((bv.l.drop i.toNat).take (i'.toNat - i.toNat)) ((ov.l.drop j.toNat).take (j'.toNat - j.toNat)) ((tv.l.drop k.toNat).take (k'.toNat - k.toNat))) (fun x => x.2.m) (fun x => Ow.star (Blk p [bv.val, ov.val, tv.val, i64 i', i64 j', i64 k', x.1.val, .bool false] 54) (x.1.own 34)) := by
  refine Ct.of Try.func22 rfl (by kernel_rfl) Try.ntmps22 (by simp) fun c => ?_
  refine VC.seq ?_
  refine VC.seq ?_
  refine VC.region ?_
  refine VL.q (q_move rfl) (by decide) ?_
  refine VL.q (q_move rfl) (by decide) ?_
  refine VL.q (q_nilCheck rfl) (by decide) ?_
  refine VL.q (q_field fa54_3 rfl) (by decide) ?_
  refine VL.q (q_fe one3 rfl rfl) (by decide) ?_
  refine VL.q (q_gtr rfl rfl) (by decide) ?_
  refine VL.q (q_move rfl) (by decide) ?_
  refine VL.split_dec 14 rfl (fun h14 => ?_) (fun h14 => ?_)
  · -- then of 14
    refine VL.gn rfl rfl rfl (by decide) ?_
    refine VL.gn rfl rfl rfl (by decide) ?_
    refine VL.gn rfl rfl rfl (by decide) ?_
    refine VL.gn rfl rfl rfl (by decide) ?_
    refine VL.gn rfl rfl rfl (by decide) ?_
    refine VL.gn rfl rfl rfl (by decide) ?_
    refine VL.q (q_pick_t rfl rfl) (by decide) ?_
    refine VL.q (q_move rfl) (by decide) ?_
    refine VL.gn rfl rfl rfl (by decide) ?_
    refine VL.gn rfl rfl rfl (by decide) ?_
    refine VL.gn rfl rfl rfl (by decide) ?_
    refine VL.gn rfl rfl rfl (by decide) ?_
    refine VL.gn rfl rfl rfl (by decide) ?_
    refine VL.gn rfl rfl rfl (by decide) ?_
    refine VL.q (q_pick_t rfl rfl) (by decide) ?_
    refine VL.to (fun _ _ h => h) ?_
    refine VC.cond_t rfl ?_
    refine VC.seq ?_
    refine VC.draw [(0, true), (1, true), (2, true), (3, true), (4, true), (5, true), (6, true), (7, true), (8, true), (9, true), (10, true), (11, true), (12, true), (13, true), (14, true), (15, true), (16, true), (17, true), (18, true), (19, true), (20, true), (21, true), (22, true), (23, true), (24, true), (25, true), (26, true), (27, true), (28, true), (29, true), (30, true), (31, true), (32, true), (33, true), (34, true), (35, false), (36, false), (37, false), (38, true), (39, true), (40, false)] mixed (by kernel_rfl) (by kernel_rfl) (by kernel_rfl) ?_
    refine VD.q rfl (q_move rfl) (by decide) ?_
    refine VD.q rfl (q_move rfl) (by decide) ?_
    refine VD.q rfl (q_nilCheck rfl) (by decide) ?_
    refine VD.q rfl (q_field fa54_6 rfl) (by decide) ?_
    refine VD.q rfl (q_fe one30 rfl rfl) (by decide) ?_
    refine VD.q rfl (q_move rfl) (by decide) ?_
    refine VD.q rfl (q_nilCheck rfl) (by decide) ?_
    refine VD.q rfl (q_field fa54_0 rfl) (by decide) ?_
    refine VD.q rfl (q_fe one28 rfl rfl) (by decide) ?_
    refine VD.q rfl (q_move rfl) (by decide) ?_
    refine VD.q rfl (q_nilCheck rfl) (by decide) ?_
    refine VD.q rfl (q_field fa54_3 rfl) (by decide) ?_
    refine VD.q rfl (q_fe one3 rfl rfl) (by decide) ?_
    refine VD.q rfl (q_move rfl) (by decide) ?_
    refine VD.part (s := bv) rfl ((i).toNat) ((i').toNat) Try.underlying28 sz9 rfl rfl rfl rfl (by show i = _; omega) (by show i' = _; omega) (.inl rfl) (fun h => by cases h) (by omega) (by omega) (by decide) (fun s44 _ hs44 => ?_)
    refine VD.q rfl (q_move rfl) (by decide) ?_
    refine VD.q rfl (q_nilCheck rfl) (by decide) ?_
    refine VD.q rfl (q_field fa54_1 rfl) (by decide) ?_
    refine VD.q rfl (q_fe one28 rfl rfl) (by decide) ?_
    refine VD.q rfl (q_move rfl) (by decide) ?_
    refine VD.q rfl (q_nilCheck rfl) (by decide) ?_
    refine VD.q rfl (q_field fa54_4 rfl) (by decide) ?_
    refine VD.q rfl (q_fe one3 rfl rfl) (by decide) ?_
    refine VD.q rfl (q_move rfl) (by decide) ?_
    refine VD.part (s := ov) rfl ((j).toNat) ((j').toNat) Try.underlying28 sz9 rfl rfl rfl rfl (by show j = _; omega) (by show j' = _; omega) (.inl rfl) (fun h => by cases h) (by omega) (by omega) (by decide) (fun s54 _ hs54 => ?_)
    refine VD.q rfl (q_move rfl) (by decide) ?_
    refine VD.q rfl (q_nilCheck rfl) (by decide) ?_
    refine VD.q rfl (q_field fa54_2 rfl) (by decide) ?_
    refine VD.q rfl (q_fe one28 rfl rfl) (by decide) ?_
    refine VD.q rfl (q_move rfl) (by decide) ?_
    refine VD.q rfl (q_nilCheck rfl) (by decide) ?_
    refine VD.q rfl (q_field fa54_5 rfl) (by decide) ?_
    refine VD.q rfl (q_fe one3 rfl rfl) (by decide) ?_
    refine VD.q rfl (q_move rfl) (by decide) ?_
    refine VD.part (s := tv) rfl ((k).toNat) ((k').toNat) Try.underlying28 sz9 rfl rfl rfl rfl (by show k = _; omega) (by show k' = _; omega) (.inl rfl) (fun h => by cases h) (by omega) (by omega) (by decide) (fun s64 _ hs64 => ?_)
    refine VD.one rfl ?_
    refine VL.callF (gap_ct s44 s54 s64 (by rw [hs44]; simp; omega) (by rw [hs54]; simp; omega) (by rw [hs64]; simp; omega)) rfl (by decide) ?_
    rintro x hx
    refine VL.back (D' := [(4, out.val), (3, ptr p 6), (2, ptr p 0)]) (by kernel_rfl) (Pend.cons rfl (q_fe one30 rfl rfl) (Pend.cons rfl (q_field fa54_6 rfl) (Pend.cons rfl (q_nilCheck rfl) (Pend.nil)))) ?_
    refine VD.one rfl ?_
    refine VL.lit (α := Ck) (xs := [.tmp 65]) (vs := [.agg #[x.base.val, x.ours.val, x.theirs.val, .bool x.clash, x.out.val]]) [x] Try.underlying30 lit34 (by decide) rfl rfl rfl rfl (by decide) (fun h m z hz => by cases List.mem_singleton.1 hz; exact InM.out (X := x.m) h m) (by decide) (fun s66 hs66 => ?_) (by decide)
    refine VL.back (D' := [(4, out.val), (3, ptr p 6), (2, ptr p 0)]) (by kernel_rfl) (Pend.cons rfl (q_fe one30 rfl rfl) (Pend.cons rfl (q_field fa54_6 rfl) (Pend.cons rfl (q_nilCheck rfl) (Pend.nil)))) ?_
    refine VD.one rfl ?_
    refine VL.app (s := out) (r := s66) Try.underlying30 app34 (by decide) rfl Fo.out (by rw [hs66]; simp; omega) (by rw [hs66]; simp; omega) (by decide) (fun s67 hs67 => ?_)
    refine VL.back (D' := []) (by kernel_rfl) (Pend.nil) ?_
    refine VD.q rfl (q_nilCheck rfl) (by decide) ?_
    refine VD.q rfl (q_field fa54_6 rfl) (by decide) ?_
    refine VD.one rfl ?_
    refine VL.store (vc := [s67.val]) (cs' := [bv.val, ov.val, tv.val, i64 i, i64 j, i64 k, s67.val, .bool op]) rfl rfl rfl sz30 rfl rfl (Nat.le_of_ble_eq_true rfl) rfl ?_
    refine VL.back (D' := []) (by kernel_rfl) (Pend.nil) ?_
    refine VD.to (fun _ _ h => h) ?_
    refine VC.region ?_
    refine VL.q (q_move rfl) (by decide) ?_
    refine VL.q (q_nilCheck rfl) (by decide) ?_
    refine VL.q (q_field fa54_7 rfl) (by decide) ?_
    refine VL.store (vc := [.bool false]) (cs' := [bv.val, ov.val, tv.val, i64 i, i64 j, i64 k, s67.val, .bool false]) rfl rfl rfl sz4 rfl rfl (Nat.le_of_ble_eq_true rfl) rfl ?_
    refine VL.to (fun _ _ h => h) ?_
    refine VC.region ?_
    refine VL.q (q_move rfl) (by decide) ?_
    refine VL.q (q_move rfl) (by decide) ?_
    refine VL.q (q_move rfl) (by decide) ?_
    refine VL.q (q_move rfl) (by decide) ?_
    refine VL.q (q_move rfl) (by decide) ?_
    refine VL.q (q_move rfl) (by decide) ?_
    refine VL.q (q_nilCheck rfl) (by decide) ?_
    refine VL.q (q_field fa54_3 rfl) (by decide) ?_
    refine VL.store (vc := [i64 i']) (cs' := [bv.val, ov.val, tv.val, i64 i', i64 j, i64 k, s67.val, .bool false]) rfl rfl rfl sz3 rfl rfl (Nat.le_of_ble_eq_true rfl) rfl ?_
    refine VL.q (q_nilCheck rfl) (by decide) ?_
    refine VL.q (q_field fa54_4 rfl) (by decide) ?_
    refine VL.store (vc := [i64 j']) (cs' := [bv.val, ov.val, tv.val, i64 i', i64 j', i64 k, s67.val, .bool false]) rfl rfl rfl sz3 rfl rfl (Nat.le_of_ble_eq_true rfl) rfl ?_
    refine VL.q (q_nilCheck rfl) (by decide) ?_
    refine VL.q (q_field fa54_5 rfl) (by decide) ?_
    refine VL.store (vc := [i64 k']) (cs' := [bv.val, ov.val, tv.val, i64 i', i64 j', i64 k', s67.val, .bool false]) rfl rfl rfl sz3 rfl rfl (Nat.le_of_ble_eq_true rfl) rfl ?_
    exact VL.nil (fin0I (.inl rfl) rfl (s67, x) rfl (⟨by rw [hs67, hs66], by rw [hx, hs44, hs54, hs64]⟩) EntO.out)
  · -- else of 14
    refine VL.gy rfl rfl (q_move rfl) (by decide) ?_
    refine VL.gy rfl rfl (q_move rfl) (by decide) ?_
    refine VL.gy rfl rfl (q_nilCheck rfl) (by decide) ?_
    refine VL.gy rfl rfl (q_field fa54_4 rfl) (by decide) ?_
    refine VL.gy rfl rfl (q_fe one3 rfl rfl) (by decide) ?_
    refine VL.gy rfl rfl (q_gtr rfl rfl) (by decide) ?_
    refine VL.q (q_pick_f rfl rfl) (by decide) ?_
    refine VL.q (q_move rfl) (by decide) ?_
    refine VL.split_dec 22 rfl (fun h22 => ?_) (fun h22 => ?_)
    · -- then of 22
      refine VL.gn rfl rfl rfl (by decide) ?_
      refine VL.gn rfl rfl rfl (by decide) ?_
      refine VL.gn rfl rfl rfl (by decide) ?_
      refine VL.gn rfl rfl rfl (by decide) ?_
      refine VL.gn rfl rfl rfl (by decide) ?_
      refine VL.gn rfl rfl rfl (by decide) ?_
      refine VL.q (q_pick_t rfl rfl) (by decide) ?_
      refine VL.to (fun _ _ h => h) ?_
      refine VC.cond_t rfl ?_
      refine VC.seq ?_
      refine VC.draw [(0, true), (1, true), (2, true), (3, true), (4, true), (5, true), (6, true), (7, true), (8, true), (9, true), (10, true), (11, true), (12, true), (13, true), (14, true), (15, true), (16, true), (17, true), (18, true), (19, true), (20, true), (21, true), (22, true), (23, true), (24, true), (25, true), (26, true), (27, true), (28, true), (29, true), (30, true), (31, true), (32, true), (33, true), (34, true), (35, false), (36, false), (37, false), (38, true), (39, true), (40, false)] mixed (by kernel_rfl) (by kernel_rfl) (by kernel_rfl) ?_
      refine VD.q rfl (q_move rfl) (by decide) ?_
      refine VD.q rfl (q_move rfl) (by decide) ?_
      refine VD.q rfl (q_nilCheck rfl) (by decide) ?_
      refine VD.q rfl (q_field fa54_6 rfl) (by decide) ?_
      refine VD.q rfl (q_fe one30 rfl rfl) (by decide) ?_
      refine VD.q rfl (q_move rfl) (by decide) ?_
      refine VD.q rfl (q_nilCheck rfl) (by decide) ?_
      refine VD.q rfl (q_field fa54_0 rfl) (by decide) ?_
      refine VD.q rfl (q_fe one28 rfl rfl) (by decide) ?_
      refine VD.q rfl (q_move rfl) (by decide) ?_
      refine VD.q rfl (q_nilCheck rfl) (by decide) ?_
      refine VD.q rfl (q_field fa54_3 rfl) (by decide) ?_
      refine VD.q rfl (q_fe one3 rfl rfl) (by decide) ?_
      refine VD.q rfl (q_move rfl) (by decide) ?_
      refine VD.part (s := bv) rfl ((i).toNat) ((i').toNat) Try.underlying28 sz9 rfl rfl rfl rfl (by show i = _; omega) (by show i' = _; omega) (.inl rfl) (fun h => by cases h) (by omega) (by omega) (by decide) (fun s44 _ hs44 => ?_)
      refine VD.q rfl (q_move rfl) (by decide) ?_
      refine VD.q rfl (q_nilCheck rfl) (by decide) ?_
      refine VD.q rfl (q_field fa54_1 rfl) (by decide) ?_
      refine VD.q rfl (q_fe one28 rfl rfl) (by decide) ?_
      refine VD.q rfl (q_move rfl) (by decide) ?_
      refine VD.q rfl (q_nilCheck rfl) (by decide) ?_
      refine VD.q rfl (q_field fa54_4 rfl) (by decide) ?_
      refine VD.q rfl (q_fe one3 rfl rfl) (by decide) ?_
      refine VD.q rfl (q_move rfl) (by decide) ?_
      refine VD.part (s := ov) rfl ((j).toNat) ((j').toNat) Try.underlying28 sz9 rfl rfl rfl rfl (by show j = _; omega) (by show j' = _; omega) (.inl rfl) (fun h => by cases h) (by omega) (by omega) (by decide) (fun s54 _ hs54 => ?_)
      refine VD.q rfl (q_move rfl) (by decide) ?_
      refine VD.q rfl (q_nilCheck rfl) (by decide) ?_
      refine VD.q rfl (q_field fa54_2 rfl) (by decide) ?_
      refine VD.q rfl (q_fe one28 rfl rfl) (by decide) ?_
      refine VD.q rfl (q_move rfl) (by decide) ?_
      refine VD.q rfl (q_nilCheck rfl) (by decide) ?_
      refine VD.q rfl (q_field fa54_5 rfl) (by decide) ?_
      refine VD.q rfl (q_fe one3 rfl rfl) (by decide) ?_
      refine VD.q rfl (q_move rfl) (by decide) ?_
      refine VD.part (s := tv) rfl ((k).toNat) ((k').toNat) Try.underlying28 sz9 rfl rfl rfl rfl (by show k = _; omega) (by show k' = _; omega) (.inl rfl) (fun h => by cases h) (by omega) (by omega) (by decide) (fun s64 _ hs64 => ?_)
      refine VD.one rfl ?_
      refine VL.callF (gap_ct s44 s54 s64 (by rw [hs44]; simp; omega) (by rw [hs54]; simp; omega) (by rw [hs64]; simp; omega)) rfl (by decide) ?_
      rintro x hx
      refine VL.back (D' := [(4, out.val), (3, ptr p 6), (2, ptr p 0)]) (by kernel_rfl) (Pend.cons rfl (q_fe one30 rfl rfl) (Pend.cons rfl (q_field fa54_6 rfl) (Pend.cons rfl (q_nilCheck rfl) (Pend.nil)))) ?_
      refine VD.one rfl ?_
      refine VL.lit (α := Ck) (xs := [.tmp 65]) (vs := [.agg #[x.base.val, x.ours.val, x.theirs.val, .bool x.clash, x.out.val]]) [x] Try.underlying30 lit34 (by decide) rfl rfl rfl rfl (by decide) (fun h m z hz => by cases List.mem_singleton.1 hz; exact InM.out (X := x.m) h m) (by decide) (fun s66 hs66 => ?_) (by decide)
      refine VL.back (D' := [(4, out.val), (3, ptr p 6), (2, ptr p 0)]) (by kernel_rfl) (Pend.cons rfl (q_fe one30 rfl rfl) (Pend.cons rfl (q_field fa54_6 rfl) (Pend.cons rfl (q_nilCheck rfl) (Pend.nil)))) ?_
      refine VD.one rfl ?_
      refine VL.app (s := out) (r := s66) Try.underlying30 app34 (by decide) rfl Fo.out (by rw [hs66]; simp; omega) (by rw [hs66]; simp; omega) (by decide) (fun s67 hs67 => ?_)
      refine VL.back (D' := []) (by kernel_rfl) (Pend.nil) ?_
      refine VD.q rfl (q_nilCheck rfl) (by decide) ?_
      refine VD.q rfl (q_field fa54_6 rfl) (by decide) ?_
      refine VD.one rfl ?_
      refine VL.store (vc := [s67.val]) (cs' := [bv.val, ov.val, tv.val, i64 i, i64 j, i64 k, s67.val, .bool op]) rfl rfl rfl sz30 rfl rfl (Nat.le_of_ble_eq_true rfl) rfl ?_
      refine VL.back (D' := []) (by kernel_rfl) (Pend.nil) ?_
      refine VD.to (fun _ _ h => h) ?_
      refine VC.region ?_
      refine VL.q (q_move rfl) (by decide) ?_
      refine VL.q (q_nilCheck rfl) (by decide) ?_
      refine VL.q (q_field fa54_7 rfl) (by decide) ?_
      refine VL.store (vc := [.bool false]) (cs' := [bv.val, ov.val, tv.val, i64 i, i64 j, i64 k, s67.val, .bool false]) rfl rfl rfl sz4 rfl rfl (Nat.le_of_ble_eq_true rfl) rfl ?_
      refine VL.to (fun _ _ h => h) ?_
      refine VC.region ?_
      refine VL.q (q_move rfl) (by decide) ?_
      refine VL.q (q_move rfl) (by decide) ?_
      refine VL.q (q_move rfl) (by decide) ?_
      refine VL.q (q_move rfl) (by decide) ?_
      refine VL.q (q_move rfl) (by decide) ?_
      refine VL.q (q_move rfl) (by decide) ?_
      refine VL.q (q_nilCheck rfl) (by decide) ?_
      refine VL.q (q_field fa54_3 rfl) (by decide) ?_
      refine VL.store (vc := [i64 i']) (cs' := [bv.val, ov.val, tv.val, i64 i', i64 j, i64 k, s67.val, .bool false]) rfl rfl rfl sz3 rfl rfl (Nat.le_of_ble_eq_true rfl) rfl ?_
      refine VL.q (q_nilCheck rfl) (by decide) ?_
      refine VL.q (q_field fa54_4 rfl) (by decide) ?_
      refine VL.store (vc := [i64 j']) (cs' := [bv.val, ov.val, tv.val, i64 i', i64 j', i64 k, s67.val, .bool false]) rfl rfl rfl sz3 rfl rfl (Nat.le_of_ble_eq_true rfl) rfl ?_
      refine VL.q (q_nilCheck rfl) (by decide) ?_
      refine VL.q (q_field fa54_5 rfl) (by decide) ?_
      refine VL.store (vc := [i64 k']) (cs' := [bv.val, ov.val, tv.val, i64 i', i64 j', i64 k', s67.val, .bool false]) rfl rfl rfl sz3 rfl rfl (Nat.le_of_ble_eq_true rfl) rfl ?_
      exact VL.nil (fin0I (.inl rfl) rfl (s67, x) rfl (⟨by rw [hs67, hs66], by rw [hx, hs44, hs54, hs64]⟩) EntO.out)
    · -- else of 22
      refine VL.gy rfl rfl (q_move rfl) (by decide) ?_
      refine VL.gy rfl rfl (q_move rfl) (by decide) ?_
      refine VL.gy rfl rfl (q_nilCheck rfl) (by decide) ?_
      refine VL.gy rfl rfl (q_field fa54_5 rfl) (by decide) ?_
      refine VL.gy rfl rfl (q_fe one3 rfl rfl) (by decide) ?_
      refine VL.gy rfl rfl (q_gtr rfl rfl) (by decide) ?_
      refine VL.q (q_pick_f rfl rfl) (by decide) ?_
      refine VL.to (fun _ _ h => h) ?_
      refine VC.cond_dec rfl (fun h29 => ?_) (fun h29 => ?_)
      · -- then of 29
        refine VC.seq ?_
        refine VC.draw [(0, true), (1, true), (2, true), (3, true), (4, true), (5, true), (6, true), (7, true), (8, true), (9, true), (10, true), (11, true), (12, true), (13, true), (14, true), (15, true), (16, true), (17, true), (18, true), (19, true), (20, true), (21, true), (22, true), (23, true), (24, true), (25, true), (26, true), (27, true), (28, true), (29, true), (30, true), (31, true), (32, true), (33, true), (34, true), (35, false), (36, false), (37, false), (38, true), (39, true), (40, false)] mixed (by kernel_rfl) (by kernel_rfl) (by kernel_rfl) ?_
        refine VD.q rfl (q_move rfl) (by decide) ?_
        refine VD.q rfl (q_move rfl) (by decide) ?_
        refine VD.q rfl (q_nilCheck rfl) (by decide) ?_
        refine VD.q rfl (q_field fa54_6 rfl) (by decide) ?_
        refine VD.q rfl (q_fe one30 rfl rfl) (by decide) ?_
        refine VD.q rfl (q_move rfl) (by decide) ?_
        refine VD.q rfl (q_nilCheck rfl) (by decide) ?_
        refine VD.q rfl (q_field fa54_0 rfl) (by decide) ?_
        refine VD.q rfl (q_fe one28 rfl rfl) (by decide) ?_
        refine VD.q rfl (q_move rfl) (by decide) ?_
        refine VD.q rfl (q_nilCheck rfl) (by decide) ?_
        refine VD.q rfl (q_field fa54_3 rfl) (by decide) ?_
        refine VD.q rfl (q_fe one3 rfl rfl) (by decide) ?_
        refine VD.q rfl (q_move rfl) (by decide) ?_
        refine VD.part (s := bv) rfl ((i).toNat) ((i').toNat) Try.underlying28 sz9 rfl rfl rfl rfl (by show i = _; omega) (by show i' = _; omega) (.inl rfl) (fun h => by cases h) (by omega) (by omega) (by decide) (fun s44 _ hs44 => ?_)
        refine VD.q rfl (q_move rfl) (by decide) ?_
        refine VD.q rfl (q_nilCheck rfl) (by decide) ?_
        refine VD.q rfl (q_field fa54_1 rfl) (by decide) ?_
        refine VD.q rfl (q_fe one28 rfl rfl) (by decide) ?_
        refine VD.q rfl (q_move rfl) (by decide) ?_
        refine VD.q rfl (q_nilCheck rfl) (by decide) ?_
        refine VD.q rfl (q_field fa54_4 rfl) (by decide) ?_
        refine VD.q rfl (q_fe one3 rfl rfl) (by decide) ?_
        refine VD.q rfl (q_move rfl) (by decide) ?_
        refine VD.part (s := ov) rfl ((j).toNat) ((j').toNat) Try.underlying28 sz9 rfl rfl rfl rfl (by show j = _; omega) (by show j' = _; omega) (.inl rfl) (fun h => by cases h) (by omega) (by omega) (by decide) (fun s54 _ hs54 => ?_)
        refine VD.q rfl (q_move rfl) (by decide) ?_
        refine VD.q rfl (q_nilCheck rfl) (by decide) ?_
        refine VD.q rfl (q_field fa54_2 rfl) (by decide) ?_
        refine VD.q rfl (q_fe one28 rfl rfl) (by decide) ?_
        refine VD.q rfl (q_move rfl) (by decide) ?_
        refine VD.q rfl (q_nilCheck rfl) (by decide) ?_
        refine VD.q rfl (q_field fa54_5 rfl) (by decide) ?_
        refine VD.q rfl (q_fe one3 rfl rfl) (by decide) ?_
        refine VD.q rfl (q_move rfl) (by decide) ?_
        refine VD.part (s := tv) rfl ((k).toNat) ((k').toNat) Try.underlying28 sz9 rfl rfl rfl rfl (by show k = _; omega) (by show k' = _; omega) (.inl rfl) (fun h => by cases h) (by omega) (by omega) (by decide) (fun s64 _ hs64 => ?_)
        refine VD.one rfl ?_
        refine VL.callF (gap_ct s44 s54 s64 (by rw [hs44]; simp; omega) (by rw [hs54]; simp; omega) (by rw [hs64]; simp; omega)) rfl (by decide) ?_
        rintro x hx
        refine VL.back (D' := [(4, out.val), (3, ptr p 6), (2, ptr p 0)]) (by kernel_rfl) (Pend.cons rfl (q_fe one30 rfl rfl) (Pend.cons rfl (q_field fa54_6 rfl) (Pend.cons rfl (q_nilCheck rfl) (Pend.nil)))) ?_
        refine VD.one rfl ?_
        refine VL.lit (α := Ck) (xs := [.tmp 65]) (vs := [.agg #[x.base.val, x.ours.val, x.theirs.val, .bool x.clash, x.out.val]]) [x] Try.underlying30 lit34 (by decide) rfl rfl rfl rfl (by decide) (fun h m z hz => by cases List.mem_singleton.1 hz; exact InM.out (X := x.m) h m) (by decide) (fun s66 hs66 => ?_) (by decide)
        refine VL.back (D' := [(4, out.val), (3, ptr p 6), (2, ptr p 0)]) (by kernel_rfl) (Pend.cons rfl (q_fe one30 rfl rfl) (Pend.cons rfl (q_field fa54_6 rfl) (Pend.cons rfl (q_nilCheck rfl) (Pend.nil)))) ?_
        refine VD.one rfl ?_
        refine VL.app (s := out) (r := s66) Try.underlying30 app34 (by decide) rfl Fo.out (by rw [hs66]; simp; omega) (by rw [hs66]; simp; omega) (by decide) (fun s67 hs67 => ?_)
        refine VL.back (D' := []) (by kernel_rfl) (Pend.nil) ?_
        refine VD.q rfl (q_nilCheck rfl) (by decide) ?_
        refine VD.q rfl (q_field fa54_6 rfl) (by decide) ?_
        refine VD.one rfl ?_
        refine VL.store (vc := [s67.val]) (cs' := [bv.val, ov.val, tv.val, i64 i, i64 j, i64 k, s67.val, .bool op]) rfl rfl rfl sz30 rfl rfl (Nat.le_of_ble_eq_true rfl) rfl ?_
        refine VL.back (D' := []) (by kernel_rfl) (Pend.nil) ?_
        refine VD.to (fun _ _ h => h) ?_
        refine VC.region ?_
        refine VL.q (q_move rfl) (by decide) ?_
        refine VL.q (q_nilCheck rfl) (by decide) ?_
        refine VL.q (q_field fa54_7 rfl) (by decide) ?_
        refine VL.store (vc := [.bool false]) (cs' := [bv.val, ov.val, tv.val, i64 i, i64 j, i64 k, s67.val, .bool false]) rfl rfl rfl sz4 rfl rfl (Nat.le_of_ble_eq_true rfl) rfl ?_
        refine VL.to (fun _ _ h => h) ?_
        refine VC.region ?_
        refine VL.q (q_move rfl) (by decide) ?_
        refine VL.q (q_move rfl) (by decide) ?_
        refine VL.q (q_move rfl) (by decide) ?_
        refine VL.q (q_move rfl) (by decide) ?_
        refine VL.q (q_move rfl) (by decide) ?_
        refine VL.q (q_move rfl) (by decide) ?_
        refine VL.q (q_nilCheck rfl) (by decide) ?_
        refine VL.q (q_field fa54_3 rfl) (by decide) ?_
        refine VL.store (vc := [i64 i']) (cs' := [bv.val, ov.val, tv.val, i64 i', i64 j, i64 k, s67.val, .bool false]) rfl rfl rfl sz3 rfl rfl (Nat.le_of_ble_eq_true rfl) rfl ?_
        refine VL.q (q_nilCheck rfl) (by decide) ?_
        refine VL.q (q_field fa54_4 rfl) (by decide) ?_
        refine VL.store (vc := [i64 j']) (cs' := [bv.val, ov.val, tv.val, i64 i', i64 j', i64 k, s67.val, .bool false]) rfl rfl rfl sz3 rfl rfl (Nat.le_of_ble_eq_true rfl) rfl ?_
        refine VL.q (q_nilCheck rfl) (by decide) ?_
        refine VL.q (q_field fa54_5 rfl) (by decide) ?_
        refine VL.store (vc := [i64 k']) (cs' := [bv.val, ov.val, tv.val, i64 i', i64 j', i64 k', s67.val, .bool false]) rfl rfl rfl sz3 rfl rfl (Nat.le_of_ble_eq_true rfl) rfl ?_
        exact VL.nil (fin0I (.inl rfl) rfl (s67, x) rfl (⟨by rw [hs67, hs66], by rw [hx, hs44, hs54, hs64]⟩) EntO.out)
      · exact absurd hput (by omega)

end Go.Proofs.Ytmkncbldffncpaa
end

section
namespace Go.Proofs.Ytmkncbldffncpaa
open Go.RowKit Go.V
open Go.P hiding Str
set_option maxRecDepth 100000 in
theorem upto_none (p : Nat) (bv ov tv : Sv Str) (out : Sv Ck) (op : Bool) (i j k i' j' k' : Int) (hi : ¬ i < i') (hj : ¬ j < j') (hk : ¬ k < k') :
    Ct Try.prog 22 [ptr p 0, i64 i', i64 j', i64 k'] Mo.tt (Blk p [bv.val, ov.val, tv.val, i64 i, i64 j, i64 k, out.val, .bool op] 54) (X := Unit) (fun _ => .tuple #[]) (fun _ => True) (fun _ => Mo.tt) (fun _ => Blk p [bv.val, ov.val, tv.val, i64 i', i64 j', i64 k', out.val, .bool op] 54) := by
  refine Ct.of Try.func22 rfl (by kernel_rfl) Try.ntmps22 (by simp) fun c => ?_
  refine VC.seq ?_
  refine VC.seq ?_
  refine VC.region ?_
  refine VL.q (q_move rfl) (by decide) ?_
  refine VL.q (q_move rfl) (by decide) ?_
  refine VL.q (q_nilCheck rfl) (by decide) ?_
  refine VL.q (q_field fa54_3 rfl) (by decide) ?_
  refine VL.q (q_fe one3 rfl rfl) (by decide) ?_
  refine VL.q (q_gtr rfl rfl) (by decide) ?_
  refine VL.q (q_move rfl) (by decide) ?_
  refine VL.split_dec 14 rfl (fun h14 => ?_) (fun h14 => ?_)
  · exact absurd h14 hi
  · -- else of 14
    refine VL.gy rfl rfl (q_move rfl) (by decide) ?_
    refine VL.gy rfl rfl (q_move rfl) (by decide) ?_
    refine VL.gy rfl rfl (q_nilCheck rfl) (by decide) ?_
    refine VL.gy rfl rfl (q_field fa54_4 rfl) (by decide) ?_
    refine VL.gy rfl rfl (q_fe one3 rfl rfl) (by decide) ?_
    refine VL.gy rfl rfl (q_gtr rfl rfl) (by decide) ?_
    refine VL.q (q_pick_f rfl rfl) (by decide) ?_
    refine VL.q (q_move rfl) (by decide) ?_
    refine VL.split_dec 22 rfl (fun h22 => ?_) (fun h22 => ?_)
    · exact absurd h22 hj
    · -- else of 22
      refine VL.gy rfl rfl (q_move rfl) (by decide) ?_
      refine VL.gy rfl rfl (q_move rfl) (by decide) ?_
      refine VL.gy rfl rfl (q_nilCheck rfl) (by decide) ?_
      refine VL.gy rfl rfl (q_field fa54_5 rfl) (by decide) ?_
      refine VL.gy rfl rfl (q_fe one3 rfl rfl) (by decide) ?_
      refine VL.gy rfl rfl (q_gtr rfl rfl) (by decide) ?_
      refine VL.q (q_pick_f rfl rfl) (by decide) ?_
      refine VL.to (fun _ _ h => h) ?_
      refine VC.cond_dec rfl (fun h29 => ?_) (fun h29 => ?_)
      · exact absurd h29 hk
      · -- else of 29
        refine VC.skip_to (fun _ _ h => h) ?_
        refine VC.region ?_
        refine VL.q (q_move rfl) (by decide) ?_
        refine VL.q (q_move rfl) (by decide) ?_
        refine VL.q (q_move rfl) (by decide) ?_
        refine VL.q (q_move rfl) (by decide) ?_
        refine VL.q (q_move rfl) (by decide) ?_
        refine VL.q (q_move rfl) (by decide) ?_
        refine VL.q (q_nilCheck rfl) (by decide) ?_
        refine VL.q (q_field fa54_3 rfl) (by decide) ?_
        refine VL.store (vc := [i64 i']) (cs' := [bv.val, ov.val, tv.val, i64 i', i64 j, i64 k, out.val, .bool op]) rfl rfl rfl sz3 rfl rfl (Nat.le_of_ble_eq_true rfl) rfl ?_
        refine VL.q (q_nilCheck rfl) (by decide) ?_
        refine VL.q (q_field fa54_4 rfl) (by decide) ?_
        refine VL.store (vc := [i64 j']) (cs' := [bv.val, ov.val, tv.val, i64 i', i64 j', i64 k, out.val, .bool op]) rfl rfl rfl sz3 rfl rfl (Nat.le_of_ble_eq_true rfl) rfl ?_
        refine VL.q (q_nilCheck rfl) (by decide) ?_
        refine VL.q (q_field fa54_5 rfl) (by decide) ?_
        refine VL.store (vc := [i64 k']) (cs' := [bv.val, ov.val, tv.val, i64 i', i64 j', i64 k', out.val, .bool op]) rfl rfl rfl sz3 rfl rfl (Nat.le_of_ble_eq_true rfl) rfl ?_
        exact VL.nil (fin0I (.inl rfl) rfl () rfl (trivial) EntO.out)

end Go.Proofs.Ytmkncbldffncpaa
end

section
namespace Go.P
theorem last_get {α : Type} {l fr : List α} {x : α} (h : l = fr ++ [x]) : l[((l.length : Int) - 1).toNat]? = some x := by
  subst h; simp
theorem last_idx {α : Type} {l fr : List α} {x : α} (h : l = fr ++ [x]) : ((l.length : Int) - 1).toNat = fr.length := by
  subst h; simp
theorem last_set {α : Type} {fr : List α} {x z : α} : (fr ++ [x]).set fr.length z = fr ++ [z] := by simp
end Go.P
end
