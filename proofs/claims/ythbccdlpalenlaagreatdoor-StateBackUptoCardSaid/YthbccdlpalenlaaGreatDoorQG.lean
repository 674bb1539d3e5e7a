/- Part of the proofs of: the law StateBack: any state as bytes, and back; its graph, its trees, its weight (any parts) (second form: where what is read is of bulk at most 1048576) -/
import Derived.Test.YthbccdlpalenlaaGreatDoorQF
set_option linter.unusedVariables false
set_option linter.unusedSimpArgs false
set_option linter.unusedSectionVars false
section
namespace Go.S
open Go
theorem q_fi {a b : List FilesFile} (ha : a.length ≤ 200000000) : Sp (Sh.slices_Equal_files_Row_files_File a b) (a = b) := by
 unfold Sh.slices_Equal_files_Row_files_File
 refine (sp_lists (fun z : FilesFile => (z.path, z.mode, z.data)) (fun z : FilesFile => (z.path, z.mode, z.data)) a b _ (fun i x y i0 hi hx hy => ?_) ?_).iff (map_eq_iff ?_)
 ·
  rw [if_pos hi, gl_atv i0 hx, Option.bind_some, gl_atv i0 hy, Option.bind_some]
  refine ok_if.2 ⟨fun h => ok_gd.2 ⟨⟨by omega, by omega⟩, ok_go.2 (.inl ⟨?_, rfl⟩)⟩, fun h => ok_up.2 (ok_some.2 (.inr ⟨fun q => h ?_, rfl⟩))⟩
  ·
   simp only [Prod.mk.injEq]; exact h
  simp only [Prod.mk.injEq] at q; exact q
 ·
  rw [if_neg (by omega)]; exact up_up (ok_some.2 rfl)
 intro x y q; simp only [Prod.mk.injEq] at q; cases x; cases y; simp_all
theorem q_row {a b : List FilesFile} (ha : a.length ≤ 200000000) : Sp (Sh.files_Row_Same a b) (a = b) := by unfold Sh.files_Row_Same; exact sp_r (q_fi ha)
theorem q_re {a b : List NamesRef} (ha : a.length ≤ 200000000) : Sp (Sh.slices_Equal_names_Ref_names_Ref a b) (a = b) := by
 unfold Sh.slices_Equal_names_Ref_names_Ref
 refine (sp_lists (fun z : NamesRef => (z.name, z.commit)) (fun z : NamesRef => (z.name, z.commit)) a b _ (fun i x y i0 hi hx hy => ?_) ?_).iff (map_eq_iff ?_)
 ·
  rw [if_pos hi, gl_atv i0 hx, Option.bind_some, gl_atv i0 hy, Option.bind_some]
  refine ok_if.2 ⟨fun h => ok_gd.2 ⟨⟨by omega, by omega⟩, ok_go.2 (.inl ⟨?_, rfl⟩)⟩, fun h => ok_up.2 (ok_some.2 (.inr ⟨fun q => h ?_, rfl⟩))⟩
  ·
   simp only [Prod.mk.injEq]; exact h
  simp only [Prod.mk.injEq] at q; exact q
 ·
  rw [if_neg (by omega)]; exact up_up (ok_some.2 rfl)
 intro x y q; simp only [Prod.mk.injEq] at q; cases x; cases y; simp_all
theorem q_st {a b : List TodoStep} (ha : a.length ≤ 200000000) : Sp (Sh.slices_Equal_todo_Step_todo_Step a b) (a = b) := by
 unfold Sh.slices_Equal_todo_Step_todo_Step
 refine (sp_lists (fun z : TodoStep => (z.verb, z.commit, z.text)) (fun z : TodoStep => (z.verb, z.commit, z.text)) a b _ (fun i x y i0 hi hx hy => ?_) ?_).iff (map_eq_iff ?_)
 ·
  rw [if_pos hi, gl_atv i0 hx, Option.bind_some, gl_atv i0 hy, Option.bind_some]
  refine ok_if.2 ⟨fun h => ok_gd.2 ⟨⟨by omega, by omega⟩, ok_go.2 (.inl ⟨?_, rfl⟩)⟩, fun h => ok_up.2 (ok_some.2 (.inr ⟨fun q => h ?_, rfl⟩))⟩
  ·
   simp only [Prod.mk.injEq]; exact h
  simp only [Prod.mk.injEq] at q; exact q
 ·
  rw [if_neg (by omega)]; exact up_up (ok_some.2 rfl)
 intro x y q; simp only [Prod.mk.injEq] at q; cases x; cases y; simp_all
theorem q_in {a b : List Int} (ha : a.length ≤ 200000000) : Sp (Sh.slices_Equal_int_int a b) (a = b) := by
 unfold Sh.slices_Equal_int_int
 refine (sp_lists (fun z : Int => z) (fun z : Int => z) a b _ (fun i x y i0 hi hx hy => ?_) ?_).iff (map_eq_iff ?_)
 ·
  rw [if_pos hi, gl_atv i0 hx, Option.bind_some, gl_atv i0 hy, Option.bind_some]
  refine ok_if.2 ⟨fun h => ok_gd.2 ⟨⟨by omega, by omega⟩, ok_go.2 (.inl ⟨?_, rfl⟩)⟩, fun h => ok_up.2 (ok_some.2 (.inr ⟨fun q => h ?_, rfl⟩))⟩
  ·
   exact h
  exact q
 ·
  rw [if_neg (by omega)]; exact up_up (ok_some.2 rfl)
 exact fun _ _ q => q
theorem r_fi {a b : List Rectoref14File} (ha : a.length ≤ 200000000) : Sp (Sh.r14_Same a b) (a = b) := by
 unfold Sh.r14_Same
 refine (sp_lists (fun z : Rectoref14File => (z.path, z.mode, z.data)) (fun z : Rectoref14File => (z.path, z.mode, z.data)) a b _ (fun i x y i0 hi hx hy => ?_) ?_).iff (map_eq_iff ?_)
 ·
  rw [if_pos hi, gl_atv i0 hx, Option.bind_some, gl_atv i0 hy, Option.bind_some]
  refine ok_if.2 ⟨fun h => ok_gd.2 ⟨⟨by omega, by omega⟩, ok_go.2 (.inl ⟨?_, rfl⟩)⟩, fun h => ok_up.2 (ok_some.2 (.inr ⟨fun q => h ?_, rfl⟩))⟩
  ·
   simp only [Prod.mk.injEq]; exact h
  simp only [Prod.mk.injEq] at q; exact q
 ·
  rw [if_neg (by omega)]; exact up_up (ok_some.2 rfl)
 intro x y q; simp only [Prod.mk.injEq] at q; cases x; cases y; simp_all
theorem r_st {a b : List Rectoref17Step} (ha : a.length ≤ 200000000) : Sp (Sh.r25_sameSteps a b) (a = b) := by
 unfold Sh.r25_sameSteps
 refine (sp_lists (fun z : Rectoref17Step => (z.verb, z.commit, z.text)) (fun z : Rectoref17Step => (z.verb, z.commit, z.text)) a b _ (fun i x y i0 hi hx hy => ?_) ?_).iff (map_eq_iff ?_)
 ·
  rw [if_pos hi, gl_atv i0 hx, Option.bind_some, gl_atv i0 hy, Option.bind_some]
  refine ok_if.2 ⟨fun h => ok_gd.2 ⟨⟨by omega, by omega⟩, ok_go.2 (.inl ⟨?_, rfl⟩)⟩, fun h => ok_up.2 (ok_some.2 (.inr ⟨fun q => h ?_, rfl⟩))⟩
  ·
   simp only [Prod.mk.injEq]; exact h
  simp only [Prod.mk.injEq] at q; exact q
 ·
  rw [if_neg (by omega)]; exact up_up (ok_some.2 rfl)
 intro x y q; simp only [Prod.mk.injEq] at q; cases x; cases y; simp_all
def k4 (z : IndexEntry) : List UInt8 × Int × Int × List UInt8 := (z.path, z.stage, z.mode, z.data)
def e4 (z : Rectoref14Entry) : List UInt8 × Int × Int × List UInt8 := (z.path, z.stage, z.mode, z.data)
theorem q_en1 (x y : IndexEntry) : Sp (Sh.index_Same_1 x y) (k4 x = k4 y) := by
 unfold Sh.index_Same_1 k4
 simp only [Prod.mk.injEq]
 refine sp_i (fun h1 => ?_) (fun h => sp_f fun q => h q.1)
 refine sp_i (fun h2 => ?_) (fun h => sp_f fun q => h q.2.1)
 refine sp_i (fun h3 => ?_) (fun h => sp_f fun q => h q.2.2.1)
 exact sp_d ⟨fun h => ⟨h1, h2, h3, h⟩, fun h => h.2.2.2⟩
theorem q_en {a b : List IndexEntry} (ha : a.length ≤ 200000000) : Sp (Sh.slices_EqualFunc_index_Entry_index_Entry_index_Entry_index_Entry a b) (a.map k4 = b.map k4) := by
 unfold Sh.slices_EqualFunc_index_Entry_index_Entry_index_Entry_index_Entry
 refine sp_lists k4 k4 a b _ (fun i x y i0 hi hx hy => ?_) ?_
 ·
  rw [if_pos hi, gl_atv i0 hx, Option.bind_some, gl_atv i0 hy, Option.bind_some]
  obtain ⟨r, hr, hh⟩ := (q_en1 x y).get
  rw [hr, Option.bind_some]
  cases r with
  | true => exact ok_if.2 ⟨fun q => (by cases q), fun _ => ok_gd.2 ⟨⟨by omega, by omega⟩, ok_go.2 (.inl ⟨hh.1 rfl, rfl⟩)⟩⟩
  | false => exact ok_if.2 ⟨fun _ => ok_up.2 (ok_some.2 (.inr ⟨fun q => (by cases hh.2 q), rfl⟩)), fun q => absurd rfl q⟩
 rw [if_neg (by omega)]; exact up_up (ok_some.2 rfl)
theorem q_idx {a b : List IndexEntry} (ha : a.length ≤ 200000000) : Sp (Sh.index_Same a b) (a.map k4 = b.map k4) := by unfold Sh.index_Same; exact sp_r (q_en ha)
theorem r_idx {a b : List Rectoref14Entry} (ha : a.length ≤ 200000000) : Sp (Sh.r14_SameIndex a b) (a.map e4 = b.map e4) := by
 unfold Sh.r14_SameIndex
 refine sp_lists e4 e4 a b _ (fun i x y i0 hi hx hy => ?_) ?_
 ·
  rw [if_pos hi]
  refine ok_jnP (fun c => c = false ↔ e4 x = e4 y) (fun c hc => ?_) (fun K hK => ?_)
  ·
   cases c with
   | true => exact ok_if.2 ⟨fun _ => ok_up.2 (ok_some.2 (.inr ⟨fun q => (by cases hc.2 q), rfl⟩)), fun q => absurd rfl q⟩
   | false => exact ok_if.2 ⟨fun q => (by cases q), fun _ => ok_gd.2 ⟨⟨by omega, by omega⟩, ok_go.2 (.inl ⟨hc.1 rfl, rfl⟩)⟩⟩
  have he : e4 x = e4 y ↔ (x.path = y.path ∧ x.stage = y.stage ∧ x.mode = y.mode ∧ x.data = y.data) := by unfold e4; simp only [Prod.mk.injEq]
  simp only [gl_atv i0 hx, gl_atv i0 hy, Option.bind_some]
  refine ok_if.2 ⟨fun h1 => ok_if.2 ⟨fun h2 => ok_if.2 ⟨fun h3 => hK _ ?_, fun h => hK true ⟨fun q => (by cases q), fun q => absurd (he.1 q).2.2.1 h⟩⟩, fun h => hK true ⟨fun q => (by cases q), fun q => absurd (he.1 q).2.1 h⟩⟩, fun h => hK true ⟨fun q => (by cases q), fun q => absurd (he.1 q).1 h⟩⟩
  rw [he]
  simp [h1, h2, h3]
 rw [if_neg (by omega)]; exact up_up (ok_some.2 rfl)
theorem q_sh1 {x y : ShelfShelfP} (h : vSh x) : Sp (Sh.shelf_Stack_Same_1 x y) (x = y) := by
 unfold Sh.shelf_Stack_Same_1
 obtain ⟨_, v1, v2, _⟩ := h
 refine sp_i (fun h1 => ?_) (fun h => sp_f fun q => h (by rw [q]))
 refine sp_b (q_row (by have := v1.1; omega)) (fun h2 => ?_) (fun h => sp_f fun q => h (by rw [q]))
 rw [if_pos rfl]
 refine sp_b (q_row (by have := v2.1; omega)) (fun h3 => ?_) (fun h => sp_f fun q => h (by rw [q]))
 rw [if_pos rfl]
 refine sp_d ⟨fun h4 => ?_, fun q => by rw [q]⟩
 cases x; cases y; simp_all
theorem q_sh {a b : List ShelfShelfP} (ha : vL vSh a) : Sp (Sh.slices_EqualFunc_shelf_Stack_shelf_Stack_shelf_Shelf_shelf_Shelf a b) (a = b) := by
 unfold Sh.slices_EqualFunc_shelf_Stack_shelf_Stack_shelf_Shelf_shelf_Shelf
 have hl := ha.1
 refine (sp_lists (fun z => z) (fun z => z) a b _ (fun i x y i0 hi hx hy => ?_) ?_).iff (map_eq_iff fun _ _ q => q)
 ·
  rw [if_pos hi, gl_atv i0 hx, Option.bind_some, gl_atv i0 hy, Option.bind_some]
  obtain ⟨r, hr, hh⟩ := (q_sh1 (y := y) (ha.2 x (List.mem_of_getElem? hx))).get
  rw [hr, Option.bind_some]
  cases r with
  | true => exact ok_if.2 ⟨fun q => (by cases q), fun _ => ok_gd.2 ⟨⟨by omega, by omega⟩, ok_go.2 (.inl ⟨hh.1 rfl, rfl⟩)⟩⟩
  | false => exact ok_if.2 ⟨fun _ => ok_up.2 (ok_some.2 (.inr ⟨fun q => (by cases hh.2 q), rfl⟩)), fun q => absurd rfl q⟩
 rw [if_neg (by omega)]; exact up_up (ok_some.2 rfl)
def SeqEq (a b : StateSeqP) : Prop := a.kind = b.kind ∧ a.other = b.other ∧ a.text = b.text ∧ a.doing = b.doing ∧ a.todo = b.todo ∧ a.made = b.made ∧ a.branch = b.branch ∧ (a.head_branch = b.head_branch ∧ a.head_commit = b.head_commit) ∧ a.index.map k4 = b.index.map k4 ∧ a.work = b.work
theorem q_seq {a b : StateSeqP} (h : vSq a) : Sp (Sh.state_sameSeq a b) (SeqEq a b) := by
 unfold Sh.state_sameSeq SeqEq
 obtain ⟨_, _, _, v4, v5, _, _, _, v9, va⟩ := h
 refine sp_i (fun h1 => ?_) (fun h => sp_f fun q => h q.1)
 refine sp_i (fun h2 => ?_) (fun h => sp_f fun q => h q.2.1)
 refine sp_i (fun h3 => ?_) (fun h => sp_f fun q => h q.2.2.1)
 refine sp_b (q_st (by have := v4.1; omega)) (fun h4 => ?_) (fun h => sp_f fun q => h q.2.2.2.1)
 rw [if_pos rfl]
 refine sp_b (q_st (by have := v5.1; omega)) (fun h5 => ?_) (fun h => sp_f fun q => h q.2.2.2.2.1)
 rw [if_pos rfl]
 refine sp_i (fun h6 => ?_) (fun h => sp_f fun q => h q.2.2.2.2.2.1)
 refine sp_i (fun h7 => ?_) (fun h => sp_f fun q => h q.2.2.2.2.2.2.1)
 refine sp_i (fun h8 => ?_) (fun h => sp_f fun q => h q.2.2.2.2.2.2.2.1)
 refine sp_b (q_idx (by have := v9.1; omega)) (fun h9 => ?_) (fun h => sp_f fun q => h q.2.2.2.2.2.2.2.2.1)
 rw [if_pos rfl]
 exact sp_r ((q_row (by have := va.1; omega)).iff ⟨fun h => ⟨h1, h2, h3, h4, h5, h6, h7, h8, h9, h⟩, fun h => h.2.2.2.2.2.2.2.2.2⟩)
def NowEq (a b : StateNowP) : Prop := a.work = b.work ∧ a.index.map k4 = b.index.map k4 ∧ a.refs = b.refs ∧ (a.head_branch = b.head_branch ∧ a.head_commit = b.head_commit) ∧ SeqEq (seqOf a) (seqOf b) ∧ a.stash = b.stash
theorem q_now {a b : StateNowP} (h : vNo a) : Sp (Sh.state_sameNow a b) (NowEq a b) := by
 unfold Sh.state_sameNow NowEq
 obtain ⟨v1, v2, v3, _, v5, v6⟩ := h
 refine sp_b (q_row (by have := v1.1; omega)) (fun h1 => ?_) (fun h => sp_f fun q => h q.1)
 rw [if_pos rfl]
 refine sp_b (q_idx (by have := v2.1; omega)) (fun h2 => ?_) (fun h => sp_f fun q => h q.2.1)
 rw [if_pos rfl]
 refine sp_b (q_re (by have := v3.1; omega)) (fun h3 => ?_) (fun h => sp_f fun q => h q.2.2.1)
 rw [if_pos rfl]
 refine sp_i (fun h4 => ?_) (fun h => sp_f fun q => h q.2.2.2.1)
 refine sp_b (q_seq (a := seqOf a) (b := seqOf b) v5) (fun h5 => ?_) (fun h => sp_f fun q => h q.2.2.2.2.1)
 rw [if_pos rfl]
 unfold Sh.shelf_Stack_Same
 exact sp_r (sp_r ((q_sh v6).iff ⟨fun h => ⟨h1, h2, h3, h4, h5, h⟩, fun h => h.2.2.2.2.2⟩))
def toFile (z : FilesFile) : Rectoref14File := ⟨z.path, z.mode, z.data⟩
def toEnt (z : IndexEntry) : Rectoref14Entry := ⟨z.path, z.stage, z.mode, z.data, z.time, z.size⟩
def toRef (z : NamesRef) : Rectoref25Ref := ⟨z.name, z.commit⟩
def toStp (z : TodoStep) : Rectoref17Step := ⟨z.verb, z.commit, z.text⟩
def toShf (z : ShelfShelfP) : Rectoref25ShelfP := ⟨z.base, z.index.map toFile, z.work.map toFile, z.text⟩
def toNo (n : StateNowP) : Rectoref25NowP := ⟨n.work.map toFile, n.index.map toEnt, n.refs.map toRef, n.head_branch, n.head_commit, n.seq_kind, n.seq_other, n.seq_text, n.seq_doing.map toStp, n.seq_todo.map toStp, n.seq_made, n.seq_branch, n.seq_head_branch, n.seq_head_commit, n.seq_index.map toEnt, n.seq_work.map toFile, n.stash.map toShf⟩
theorem toFile_inj : ∀ x y, toFile x = toFile y → x = y := by intro x y h; cases x; cases y; simp_all [toFile]
theorem toRef_inj : ∀ x y, toRef x = toRef y → x = y := by intro x y h; cases x; cases y; simp_all [toRef]
theorem toStp_inj : ∀ x y, toStp x = toStp y → x = y := by intro x y h; cases x; cases y; simp_all [toStp]
theorem toShf_inj : ∀ x y, toShf x = toShf y → x = y := by
 intro x y h
 cases x; cases y
 simp only [toShf, Rectoref25ShelfP.mk.injEq, map_eq_iff toFile_inj] at h
 simp_all
theorem e4_map (l : List IndexEntry) : (l.map toEnt).map e4 = l.map k4 := by rw [List.map_map]; rfl
theorem r_sh {a b : List Rectoref25ShelfP} (ha : a.length ≤ 200000000) (hx : ∀ x ∈ a, x.index.length ≤ 200000000 ∧ x.work.length ≤ 200000000) : Sp (Sh.r25_SameStash a b) (a = b) := by
 unfold Sh.r25_SameStash
 refine (sp_lists (fun z => z) (fun z => z) a b _ (fun i x y i0 hi h1 h2 => ?_) ?_).iff (map_eq_iff fun _ _ q => q)
 ·
  rw [if_pos hi]
  obtain ⟨w1, w2⟩ := hx x (List.mem_of_getElem? h1)
  refine ok_jnP (fun c => c = false ↔ x = y) (fun c hc => ?_) (fun K hK => ?_)
  ·
   cases c with
   | true => exact ok_if.2 ⟨fun _ => ok_up.2 (ok_some.2 (.inr ⟨fun q => (by cases hc.2 q), rfl⟩)), fun q => absurd rfl q⟩
   | false => exact ok_if.2 ⟨fun q => (by cases q), fun _ => ok_gd.2 ⟨⟨by omega, by omega⟩, ok_go.2 (.inl ⟨hc.1 rfl, rfl⟩)⟩⟩
  simp only [gl_atv i0 h1, gl_atv i0 h2, Option.bind_some]
  refine ok_if.2 ⟨fun g1 => ok_if.2 ⟨fun g2 => ?_, fun h => hK true ⟨fun q => (by cases q), fun q => absurd (by rw [q]) h⟩⟩, fun h => hK true ⟨fun q => (by cases q), fun q => absurd (by rw [q]) h⟩⟩
  obtain ⟨r, hr, hh⟩ := (r_fi (b := y.index) w1).get
  rw [hr, Option.bind_some]
  obtain ⟨r', hr', hh'⟩ := (r_fi (b := y.work) w2).get
  cases r with
  | false => exact ok_if.2 ⟨fun _ => hK true ⟨fun q => (by cases q), fun q => (by rw [q] at hh; cases hh.2 rfl)⟩, fun q => absurd rfl q⟩
  | true =>
    refine ok_if.2 ⟨fun q => (by cases q), fun _ => ?_⟩
    rw [hr', Option.bind_some]
    refine hK _ ?_
    cases r' with
    | false => exact ⟨fun q => (by cases q), fun q => (by rw [q] at hh'; cases hh'.2 rfl)⟩
    | true =>
      refine ⟨fun _ => ?_, fun _ => rfl⟩
      have := hh.1 rfl
      have := hh'.1 rfl
      cases x; cases y; simp_all
 rw [if_neg (by omega)]; exact up_up (ok_some.2 rfl)
def wNo (n : Rectoref25NowP) : Prop := n.work.length ≤ 200000000 ∧ n.index.length ≤ 200000000 ∧ n.refs.length ≤ 200000000 ∧ n.seq_doing.length ≤ 200000000 ∧ n.seq_todo.length ≤ 200000000 ∧ n.seq_index.length ≤ 200000000 ∧ n.seq_work.length ≤ 200000000 ∧ n.stash.length ≤ 200000000 ∧ ∀ x ∈ n.stash, x.index.length ≤ 200000000 ∧ x.work.length ≤ 200000000
def DNow (a b : Rectoref25NowP) : Prop := a.work = b.work ∧ a.index.map e4 = b.index.map e4 ∧ (a.head_branch = b.head_branch ∧ a.head_commit = b.head_commit) ∧ a.refs = b.refs ∧ a.stash = b.stash ∧ a.seq_kind = b.seq_kind ∧ a.seq_other = b.seq_other ∧ a.seq_text = b.seq_text ∧ a.seq_doing = b.seq_doing ∧ a.seq_todo = b.seq_todo ∧ a.seq_made = b.seq_made ∧ a.seq_branch = b.seq_branch ∧ (a.seq_head_branch = b.seq_head_branch ∧ a.seq_head_commit = b.seq_head_commit) ∧ a.seq_index.map e4 = b.seq_index.map e4 ∧ a.seq_work = b.seq_work
theorem r_now {a b : Rectoref25NowP} (h : wNo a) : Sp (Sh.r25_SameNow a b) (DNow a b) := by
 unfold Sh.r25_SameNow
 obtain ⟨w1, w2, w3, w4, w5, w6, w7, w8, w9⟩ := h
 refine ok_jnP (fun c => c = false ↔ (a.work = b.work ∧ a.index.map e4 = b.index.map e4 ∧ (a.head_branch = b.head_branch ∧ a.head_commit = b.head_commit) ∧ a.refs.length = b.refs.length ∧ a.stash = b.stash)) (fun c hc => ?_) (fun K hK => ?_)
 ·
  cases c with
  | true => exact ok_if.2 ⟨fun _ => sp_f fun q => (by cases hc.2 ⟨q.1, q.2.1, q.2.2.1, by rw [q.2.2.2.1], q.2.2.2.2.1⟩), fun q => absurd rfl q⟩
  | false =>
    refine ok_if.2 ⟨fun q => (by cases q), fun _ => ?_⟩
    obtain ⟨g1, g2, g3, g4, g5⟩ := hc.1 rfl
    refine ok_iter (I := fun i => 0 ≤ i ∧ i ≤ a.refs.length ∧ a.refs.take i.toNat = b.refs.take i.toNat) (μ := fun i => (a.refs.length - i).toNat) ?_ ⟨by omega, by omega, by simp⟩
    rintro i ⟨i0, i1, i2⟩
    by_cases hi : i < a.refs.length
    · obtain ⟨x, hx⟩ := gl_at i0 hi
      obtain ⟨y, hy⟩ := gl_at (l := b.refs) i0 (by omega)
      rw [if_pos hi, gl_atv i0 hx, Option.bind_some, gl_atv i0 hy, Option.bind_some]
      refine ok_if.2 ⟨fun h => ok_gd.2 ⟨⟨by omega, by omega⟩, ok_go.2 ⟨⟨by omega, by omega, ?_⟩, by omega⟩⟩, fun h => ok_up.2 (sp_f fun q => h ?_)⟩
      · rw [gl_snoc i0 hx, gl_snoc i0 hy, i2]
        cases x; cases y; simp_all
      · have h1 := q.2.2.2.1
        rw [h1, hy] at hx
        cases hx
        exact ⟨rfl, rfl⟩
    · have e : i = a.refs.length := by omega
      subst e
      rw [List.take_of_length_le (by omega), List.take_of_length_le (by omega)] at i2
      rw [if_neg hi]
      refine ok_up.2 ?_
      show Sp _ (DNow a b)
      unfold DNow
      refine sp_i (fun h6 => ?_) (fun h => sp_f fun q => h q.2.2.2.2.2.1)
      refine sp_i (fun h7 => ?_) (fun h => sp_f fun q => h q.2.2.2.2.2.2.1)
      refine sp_i (fun h8 => ?_) (fun h => sp_f fun q => h q.2.2.2.2.2.2.2.1)
      refine sp_b (r_st w4) (fun h9 => ?_) (fun h => sp_f fun q => h q.2.2.2.2.2.2.2.2.1)
      rw [if_pos rfl]
      refine sp_b (r_st w5) (fun ha => ?_) (fun h => sp_f fun q => h q.2.2.2.2.2.2.2.2.2.1)
      rw [if_pos rfl]
      refine sp_i (fun hb => ?_) (fun h => sp_f fun q => h q.2.2.2.2.2.2.2.2.2.2.1)
      refine sp_i (fun hc => ?_) (fun h => sp_f fun q => h q.2.2.2.2.2.2.2.2.2.2.2.1)
      refine sp_i (fun hd => ?_) (fun h => sp_f fun q => h q.2.2.2.2.2.2.2.2.2.2.2.2.1)
      refine sp_b (r_idx w6) (fun he => ?_) (fun h => sp_f fun q => h q.2.2.2.2.2.2.2.2.2.2.2.2.2.1)
      rw [if_pos rfl]
      exact sp_r ((r_fi w7).iff ⟨fun h => ⟨g1, g2, g3, i2, g5, h6, h7, h8, h9, ha, hb, hc, hd, he, h⟩, fun h => h.2.2.2.2.2.2.2.2.2.2.2.2.2.2⟩)
 obtain ⟨r1, hr1, hh1⟩ := (r_fi (b := b.work) w1).get
 rw [hr1, Option.bind_some]
 cases r1 with
 | false => exact ok_if.2 ⟨fun _ => hK true ⟨fun q => (by cases q), fun q => (by cases hh1.2 q.1)⟩, fun q => absurd rfl q⟩
 | true =>
   refine ok_if.2 ⟨fun q => (by cases q), fun _ => ?_⟩
   obtain ⟨r2, hr2, hh2⟩ := (r_idx (b := b.index) w2).get
   rw [hr2, Option.bind_some]
   cases r2 with
   | false => exact ok_if.2 ⟨fun _ => hK true ⟨fun q => (by cases q), fun q => (by cases hh2.2 q.2.1)⟩, fun q => absurd rfl q⟩
   | true =>
     refine ok_if.2 ⟨fun q => (by cases q), fun _ => ?_⟩
     refine ok_if.2 ⟨fun h3 => ok_if.2 ⟨fun h4 => ?_, fun h => hK true ⟨fun q => (by cases q), fun q => absurd (by rw [q.2.2.2.1]) h⟩⟩, fun h => hK true ⟨fun q => (by cases q), fun q => absurd q.2.2.1 h⟩⟩
     obtain ⟨r5, hr5, hh5⟩ := (r_sh (b := b.stash) w8 w9).get
     rw [hr5, Option.bind_some]
     refine hK _ ?_
     cases r5 with
     | false => exact ⟨fun q => (by cases q), fun q => (by cases hh5.2 q.2.2.2.2)⟩
     | true => exact ⟨fun _ => ⟨hh1.1 rfl, hh2.1 rfl, h3, by omega, hh5.1 rfl⟩, fun _ => rfl⟩
theorem dnow_iff {a b : StateNowP} : DNow (toNo a) (toNo b) ↔ NowEq a b := by
 unfold DNow NowEq SeqEq toNo seqOf
 dsimp only
 rw [e4_map, e4_map, e4_map, e4_map, map_eq_iff toFile_inj, map_eq_iff toFile_inj, map_eq_iff toRef_inj, map_eq_iff toShf_inj, map_eq_iff toStp_inj, map_eq_iff toStp_inj]
 constructor
 ·
  rintro ⟨h1, h2, h3, h4, h5, h6, h7, h8, h9, ha, hb, hc, hd, he, hf⟩
  exact ⟨h1, h2, h4, h3, ⟨h6, h7, h8, h9, ha, hb, hc, hd, he, hf⟩, h5⟩
 rintro ⟨h1, h2, h4, h3, ⟨h6, h7, h8, h9, ha, hb, hc, hd, he, hf⟩, h5⟩
 exact ⟨h1, h2, h3, h4, h5, h6, h7, h8, h9, ha, hb, hc, hd, he, hf⟩
theorem wNo_of {n : StateNowP} (h : vNo n) : wNo (toNo n) := by
 obtain ⟨v1, v2, v3, _, ⟨_, _, _, v4, v5, _, _, _, v6, v7⟩, v8⟩ := h
 have := v1.1; have := v2.1; have := v3.1; have := v4.1; have := v5.1; have := v6.1; have := v7.1; have := v8.1
 dsimp only [seqOf] at *
 refine ⟨by simpa [toNo], by simpa [toNo], by simpa [toNo], by simpa [toNo], by simpa [toNo], by simpa [toNo], by simpa [toNo], by simpa [toNo], fun x hx => ?_⟩
 obtain ⟨z, hz, rfl⟩ := List.mem_map.1 hx
 obtain ⟨_, w1, w2, _⟩ := v8.2 z hz
 exact ⟨by simpa [toShf] using w1.1, by simpa [toShf] using w2.1⟩
theorem of_fi {l : List FilesFile} (h : l.length ≤ 200000000) : Sh.l14_Of l = some (l.map toFile) := by
 apply Ok.eq
 unfold Sh.l14_Of
 refine mp_loop l toFile _ (fun i z i0 hi hz s hs => ?_) ?_
 ·
  dsimp only
  rw [if_pos hi]
  simp only [gl_atv i0 hz, Option.bind_some]
  exact ok_lt.2 (ok_gd.2 ⟨by simp; omega, ok_lt.2 (nx_gd ⟨by omega, by omega⟩ rfl)⟩)
 dsimp only
 rw [if_neg (by omega)]
 exact up_up (ok_some.2 rfl)
theorem of_en {l : List IndexEntry} (h : l.length ≤ 200000000) : Sh.l15_Of l = some (l.map toEnt) := by
 apply Ok.eq
 unfold Sh.l15_Of
 refine mp_loop l toEnt _ (fun i z i0 hi hz s hs => ?_) ?_
 ·
  dsimp only
  rw [if_pos hi]
  simp only [gl_atv i0 hz, Option.bind_some]
  exact ok_lt.2 (ok_gd.2 ⟨by simp; omega, ok_lt.2 (nx_gd ⟨by omega, by omega⟩ rfl)⟩)
 dsimp only
 rw [if_neg (by omega)]
 exact up_up (ok_some.2 rfl)
theorem of_re {l : List NamesRef} (h : l.length ≤ 200000000) : Sh.l25_refs l = some (l.map toRef) := by
 apply Ok.eq
 unfold Sh.l25_refs
 refine mp_loop l toRef _ (fun i z i0 hi hz s hs => ?_) ?_
 ·
  dsimp only
  rw [if_pos hi]
  simp only [gl_atv i0 hz, Option.bind_some]
  exact ok_lt.2 (ok_gd.2 ⟨by simp; omega, ok_lt.2 (nx_gd ⟨by omega, by omega⟩ rfl)⟩)
 dsimp only
 rw [if_neg (by omega)]
 exact up_up (ok_some.2 rfl)
theorem of_st {l : List TodoStep} (h : l.length ≤ 200000000) : Sh.l21_Of l = some (l.map toStp) := by
 apply Ok.eq
 unfold Sh.l21_Of
 refine mp_loop l toStp _ (fun i z i0 hi hz s hs => ?_) ?_
 ·
  dsimp only
  rw [if_pos hi]
  simp only [gl_atv i0 hz, Option.bind_some]
  exact ok_lt.2 (ok_gd.2 ⟨by simp; omega, ok_lt.2 (nx_gd ⟨by omega, by omega⟩ rfl)⟩)
 dsimp only
 rw [if_neg (by omega)]
 exact up_up (ok_some.2 rfl)
theorem of_sh {l : List ShelfShelfP} (h : vL vSh l) : Sh.l25_stash l = some (l.map toShf) := by
 apply Ok.eq
 have hl := h.1
 unfold Sh.l25_stash
 refine mp_loop l toShf _ (fun i z i0 hi hz s hs => ?_) ?_
 ·
  obtain ⟨_, w1, w2, _⟩ := h.2 z (List.mem_of_getElem? hz)
  dsimp only
  rw [if_pos hi]
  simp only [gl_atv i0 hz, Option.bind_some]
  rw [of_fi w1.1, Option.bind_some, of_fi w2.1, Option.bind_some]
  exact ok_lt.2 (ok_gd.2 ⟨by simp; omega, ok_lt.2 (nx_gd ⟨by omega, by omega⟩ rfl)⟩)
 dsimp only
 rw [if_neg (by omega)]
 exact up_up (ok_some.2 rfl)
theorem of_now {n : StateNowP} (h : vNo n) : Sh.l25_Now n = some (toNo n) := by
 obtain ⟨v1, v2, v3, _, ⟨_, _, _, v4, v5, _, _, _, v6, v7⟩, v8⟩ := h
 unfold Sh.l25_Now
 dsimp only [seqOf] at *
 rw [of_fi v1.1, Option.bind_some, of_en v2.1, Option.bind_some, of_re v3.1, Option.bind_some, of_sh v8, Option.bind_some, of_st v4.1, Option.bind_some, of_st v5.1, Option.bind_some, of_en v6.1, Option.bind_some, of_fi v7.1, Option.bind_some]
 rfl
end Go.S
end

section
namespace Go.S
open Go
set_option maxRecDepth 100000 in
theorem known25 : Sh.l25_known = some true := by decide +kernel
end Go.S
end

section
set_option linter.unusedVariables false
namespace Go.S
open Go Go.V
theorem tl {s : List UInt8} (h : Bk.bk s ≤ 2000000) : (encT s).length ≤ 12 * Bk.bk s := by
 rw [bk_str] at *
 have := encI_len (n := ((s.length : Nat) : Int)) ⟨by omega, by omega⟩
 rw [encT, List.length_append]; omega
theorem il {n : Int} (h : I64 n) : (encI n).length ≤ 12 * Bk.bk n := by
 have := encI_len h
 rw [bk_int]; omega
theorem ll {α : Type} [Bk α] {enc : α → List UInt8} {l : List α} (hb : Bk.bk l ≤ 2000000) (hp : ∀ x : α, 1 ≤ Bk.bk x) (h : ∀ x ∈ l, Bk.bk x ≤ 2000000 → (enc x).length ≤ 12 * Bk.bk x) : (encL enc l).length ≤ 12 * Bk.bk l := by
 have h0 := bk_len hp l
 have h1 := encI_len (n := ((l.length : Nat) : Int)) ⟨by omega, by omega⟩
 have key : ∀ m : List α, (∀ x ∈ m, (enc x).length ≤ 12 * Bk.bk x) → (m.flatMap enc).length ≤ 12 * (m.map Bk.bk).sum := by
   intro m
   induction m with
   | nil => intro _; simp
   | cons y r ih =>
     intro g
     simp only [List.flatMap_cons, List.length_append, List.map_cons, List.sum_cons]
     have := g y (List.mem_cons_self ..)
     have := ih fun x hx => g x (List.mem_cons_of_mem _ hx)
     omega
 have h2 := key l fun x hx => h x hx (by have := bk_mem hx; omega)
 rw [bk_list] at *
 rw [encL, List.length_append]; omega
theorem vl {α : Type} [Bk α] {v : α → Prop} {l : List α} (hb : Bk.bk l ≤ 2000000) (hp : ∀ x : α, 1 ≤ Bk.bk x) (h : ∀ x ∈ l, Bk.bk x ≤ 2000000 → v x) : vL v l := by
 have h0 := bk_len hp l
 exact ⟨by omega, fun x hx => h x hx (by have := bk_mem hx; omega)⟩
theorem tv {s : List UInt8} (h : Bk.bk s ≤ 2000000) : s.length ≤ 200000000 := by rw [bk_str] at h; omega
theorem p_int (n : Int) : 1 ≤ Bk.bk n := Nat.le_refl 1
theorem b_fi (x : FilesFile) : Bk.bk x = Bk.bk x.path + Bk.bk x.mode + Bk.bk x.data := rfl
theorem p_fi (x : FilesFile) : 1 ≤ Bk.bk x := by have := b_fi x; have := p_int x.mode; omega
theorem v_fi {x : FilesFile} (r : Rp.rp x) (b : Bk.bk x ≤ 2000000) : vFi x ∧ (encFi x).length ≤ 12 * Bk.bk x := by
 have h := b_fi x
 refine ⟨⟨r, tv (by omega), tv (by omega)⟩, ?_⟩
 have h1 := tl (s := x.path) (by omega)
 have h2 := il (n := x.mode) r
 have h3 := tl (s := x.data) (by omega)
 simp only [encFi, List.length_append]; omega
theorem b_en (x : IndexEntry) : Bk.bk x = Bk.bk x.path + Bk.bk x.stage + Bk.bk x.mode + Bk.bk x.data + Bk.bk x.time + Bk.bk x.size := rfl
theorem p_en (x : IndexEntry) : 1 ≤ Bk.bk x := by have := b_en x; have := p_int x.mode; omega
theorem v_en {x : IndexEntry} (r : Rp.rp x) (b : Bk.bk x ≤ 2000000) : vEn x ∧ (encEn x).length ≤ 12 * Bk.bk x := by
 have h := b_en x
 obtain ⟨r1, r2, r3, r4⟩ := r
 refine ⟨⟨r1, r2, r3, r4, tv (by omega), tv (by omega)⟩, ?_⟩
 have h1 := tl (s := x.path) (by omega)
 have h2 := il r1
 have h3 := il r2
 have h4 := tl (s := x.data) (by omega)
 have h5 := il r3
 have h6 := il r4
 simp only [encEn, List.length_append]; omega
theorem b_re (x : NamesRef) : Bk.bk x = Bk.bk x.name + Bk.bk x.commit := rfl
theorem p_re (x : NamesRef) : 1 ≤ Bk.bk x := by have := b_re x; have := p_int x.commit; omega
theorem v_re {x : NamesRef} (r : Rp.rp x) (b : Bk.bk x ≤ 2000000) : vRe x ∧ (encRe x).length ≤ 12 * Bk.bk x := by
 have h := b_re x
 refine ⟨⟨r, tv (by omega)⟩, ?_⟩
 have h1 := tl (s := x.name) (by omega)
 have h2 := il (n := x.commit) r
 simp only [encRe, List.length_append]; omega
theorem b_st (x : TodoStep) : Bk.bk x = Bk.bk x.verb + Bk.bk x.commit + Bk.bk x.text := rfl
theorem p_st (x : TodoStep) : 1 ≤ Bk.bk x := by have := b_st x; have := p_int x.commit; omega
theorem v_st {x : TodoStep} (r : Rp.rp x) (b : Bk.bk x ≤ 2000000) : vSt x ∧ (encSt x).length ≤ 12 * Bk.bk x := by
 have h := b_st x
 refine ⟨⟨r, tv (by omega), tv (by omega)⟩, ?_⟩
 have h1 := tl (s := x.verb) (by omega)
 have h2 := il (n := x.commit) r
 have h3 := tl (s := x.text) (by omega)
 simp only [encSt, List.length_append]; omega
theorem v_fis {l : List FilesFile} (r : ∀ x ∈ l, Rp.rp x) (b : Bk.bk l ≤ 2000000) : vL vFi l ∧ (encL encFi l).length ≤ 12 * Bk.bk l := ⟨vl b p_fi fun x hx hb => (v_fi (r x hx) hb).1, ll b p_fi fun x hx hb => (v_fi (r x hx) hb).2⟩
theorem v_ens {l : List IndexEntry} (r : ∀ x ∈ l, Rp.rp x) (b : Bk.bk l ≤ 2000000) : vL vEn l ∧ (encL encEn l).length ≤ 12 * Bk.bk l := ⟨vl b p_en fun x hx hb => (v_en (r x hx) hb).1, ll b p_en fun x hx hb => (v_en (r x hx) hb).2⟩
theorem v_res {l : List NamesRef} (r : ∀ x ∈ l, Rp.rp x) (b : Bk.bk l ≤ 2000000) : vL vRe l ∧ (encL encRe l).length ≤ 12 * Bk.bk l := ⟨vl b p_re fun x hx hb => (v_re (r x hx) hb).1, ll b p_re fun x hx hb => (v_re (r x hx) hb).2⟩
theorem v_sts {l : List TodoStep} (r : ∀ x ∈ l, Rp.rp x) (b : Bk.bk l ≤ 2000000) : vL vSt l ∧ (encL encSt l).length ≤ 12 * Bk.bk l := ⟨vl b p_st fun x hx hb => (v_st (r x hx) hb).1, ll b p_st fun x hx hb => (v_st (r x hx) hb).2⟩
theorem v_ins {l : List Int} (r : ∀ x ∈ l, I64 x) (b : Bk.bk l ≤ 2000000) : vL I64 l ∧ (encL encI l).length ≤ 12 * Bk.bk l := ⟨vl b p_int fun x hx _ => r x hx, ll b p_int fun x hx _ => il (r x hx)⟩
theorem b_sh (x : ShelfShelfP) : Bk.bk x = Bk.bk x.base + Bk.bk x.index + Bk.bk x.work + Bk.bk x.text := rfl
theorem p_sh (x : ShelfShelfP) : 1 ≤ Bk.bk x := by have := b_sh x; have := p_int x.base; omega
theorem v_sh {x : ShelfShelfP} (r : Rp.rp x) (b : Bk.bk x ≤ 2000000) : vSh x ∧ (encSh x).length ≤ 12 * Bk.bk x := by
 have h := b_sh x
 obtain ⟨r1, r2, r3⟩ := r
 have h1 := il r1
 have h2 := v_fis (l := x.index) r2 (by omega)
 have h3 := v_fis (l := x.work) r3 (by omega)
 have h4 := tl (s := x.text) (by omega)
 refine ⟨⟨r1, h2.1, h3.1, tv (by omega)⟩, ?_⟩
 have := h2.2
 have := h3.2
 simp only [encSh, List.length_append]; omega
theorem v_shs {l : List ShelfShelfP} (r : ∀ x ∈ l, Rp.rp x) (b : Bk.bk l ≤ 2000000) : vL vSh l ∧ (encL encSh l).length ≤ 12 * Bk.bk l := ⟨vl b p_sh fun x hx hb => (v_sh (r x hx) hb).1, ll b p_sh fun x hx hb => (v_sh (r x hx) hb).2⟩
theorem b_no (x : StateNowP) : Bk.bk x = Bk.bk x.work + Bk.bk x.index + Bk.bk x.refs + Bk.bk x.head_branch + Bk.bk x.head_commit + Bk.bk x.seq_kind + Bk.bk x.seq_other + Bk.bk x.seq_text + Bk.bk x.seq_doing + Bk.bk x.seq_todo + Bk.bk x.seq_made + Bk.bk x.seq_branch + Bk.bk x.seq_head_branch + Bk.bk x.seq_head_commit + Bk.bk x.seq_index + Bk.bk x.seq_work + Bk.bk x.stash := rfl
theorem p_no (x : StateNowP) : 1 ≤ Bk.bk x := by have := b_no x; have := p_int x.head_commit; omega
theorem v_no {x : StateNowP} (r : Rp.rp x) (b : Bk.bk x ≤ 2000000) : vNo x ∧ (encNo x).length ≤ 12 * Bk.bk x := by
 have h := b_no x
 obtain ⟨r1, r2, r3, r4, r5, r6, r7, r8, r9, ra, rb, rc⟩ := r
 have h1 := v_fis (l := x.work) r1 (by omega)
 have h2 := v_ens (l := x.index) r2 (by omega)
 have h3 := v_res (l := x.refs) r3 (by omega)
 have h4 := tl (s := x.head_branch) (by omega)
 have h5 := il r4
 have h6 := tl (s := x.seq_kind) (by omega)
 have h7 := il r5
 have h8 := tl (s := x.seq_text) (by omega)
 have h9 := v_sts (l := x.seq_doing) r6 (by omega)
 have ha := v_sts (l := x.seq_todo) r7 (by omega)
 have hb := il r8
 have hc := tl (s := x.seq_branch) (by omega)
 have hd := tl (s := x.seq_head_branch) (by omega)
 have he := il r9
 have hf := v_ens (l := x.seq_index) ra (by omega)
 have hg := v_fis (l := x.seq_work) rb (by omega)
 have hh := v_shs (l := x.stash) rc (by omega)
 refine ⟨⟨h1.1, h2.1, h3.1, ⟨r4, tv (s := x.head_branch) (by omega)⟩, ⟨tv (s := x.seq_kind) (by omega), r5, tv (s := x.seq_text) (by omega), h9.1, ha.1, r8, tv (s := x.seq_branch) (by omega), ⟨r9, tv (s := x.seq_head_branch) (by omega)⟩, hf.1, hg.1⟩, hh.1⟩, ?_⟩
 have := h1.2; have := h2.2; have := h3.2; have := h9.2; have := ha.2; have := hf.2; have := hg.2; have := hh.2
 simp only [encNo, encSq, encHe, seqOf, List.length_append]; omega
theorem few_fi {l : List FilesFile} (h : l.length ≤ 200000000) : Ok (Sh.l14_Few l) (fun _ => True) := by
 unfold Sh.l14_Few
 refine ok_if.2 ⟨fun _ => ok_some.2 trivial, fun _ => ?_⟩
 refine ok_iter (I := fun i => 0 ≤ i) (μ := fun i => (l.length - i).toNat) ?_ (by decide)
 intro i i0
 refine ok_if.2 ⟨fun hi => ?_, fun _ => ok_up.2 (ok_some.2 trivial)⟩
 obtain ⟨z, hz⟩ := gl_at i0 hi
 refine ok_jnP (fun _ => True) (fun c _ => ok_if.2 ⟨fun _ => ok_up.2 (ok_some.2 trivial), fun _ => ok_gd.2 ⟨⟨by omega, by omega⟩, ok_go.2 ⟨show (0 : Int) ≤ i + 1 by omega, by omega⟩⟩⟩) (fun K hK => ?_)
 rw [gl_atv i0 hz, Option.bind_some]
 refine ok_if.2 ⟨fun _ => hK _ trivial, fun _ => ?_⟩
 rw [Option.bind_some]
 exact hK _ trivial
theorem few_en {l : List IndexEntry} (h : l.length ≤ 200000000) : Ok (Sh.l15_Few l) (fun _ => True) := by
 unfold Sh.l15_Few
 refine ok_if.2 ⟨fun _ => ok_some.2 trivial, fun _ => ?_⟩
 refine ok_iter (I := fun i => 0 ≤ i) (μ := fun i => (l.length - i).toNat) ?_ (by decide)
 intro i i0
 refine ok_if.2 ⟨fun hi => ?_, fun _ => ok_up.2 (ok_some.2 trivial)⟩
 obtain ⟨z, hz⟩ := gl_at i0 hi
 refine ok_jnP (fun _ => True) (fun c _ => ok_if.2 ⟨fun _ => ok_up.2 (ok_some.2 trivial), fun _ => ok_gd.2 ⟨⟨by omega, by omega⟩, ok_go.2 ⟨show (0 : Int) ≤ i + 1 by omega, by omega⟩⟩⟩) (fun K hK => ?_)
 rw [gl_atv i0 hz, Option.bind_some]
 refine ok_if.2 ⟨fun _ => hK _ trivial, fun _ => ?_⟩
 rw [Option.bind_some]
 exact hK _ trivial
theorem tot {α β : Type} {o : Option α} {f : α → Option β} {Q : β → Prop} (h : Ok o (fun _ => True)) (g : ∀ x, Ok (f x) Q) : Ok (o.bind f) Q := ok_bd.2 (h.mono fun x _ => g x)
theorem few_no {n : StateNowP} (h : vNo n) : Ok (Sh.l25_fewNow n) (fun _ => True) := by
 obtain ⟨v1, v2, v3, _, ⟨_, _, _, v4, v5, _, _, _, v6, v7⟩, v8⟩ := h
 dsimp only [seqOf] at *
 unfold Sh.l25_fewNow
 refine ok_jnP (fun _ => True) (fun c _ => ?_) (fun K hK => ?_)
 ·
  refine ok_if.2 ⟨fun _ => ok_some.2 trivial, fun _ => ?_⟩
  refine ok_iter (I := fun i => 0 ≤ i) (μ := fun i => (n.stash.length - i).toNat) ?_ (by decide)
  intro i i0
  refine ok_if.2 ⟨fun hi => ?_, fun _ => ok_up.2 (ok_some.2 trivial)⟩
  obtain ⟨z, hz⟩ := gl_at i0 hi
  obtain ⟨_, w1, w2, _⟩ := v8.2 z (List.mem_of_getElem? hz)
  have hl := v8.1
  refine ok_jnP (fun _ => True) (fun c _ => ok_if.2 ⟨fun _ => ok_up.2 (ok_some.2 trivial), fun _ => ok_gd.2 ⟨⟨by omega, by omega⟩, ok_go.2 ⟨show (0 : Int) ≤ i + 1 by omega, by omega⟩⟩⟩) (fun K hK => ?_)
  rw [gl_atv i0 hz, Option.bind_some]
  refine tot (few_fi w1.1) fun x => ok_if.2 ⟨fun _ => hK _ trivial, fun _ => ?_⟩
  rw [Option.bind_some]
  exact tot (few_fi w2.1) fun x => hK _ trivial
 refine tot (few_fi v1.1) fun x => ok_if.2 ⟨fun _ => hK _ trivial, fun _ => ?_⟩
 refine tot (few_en v2.1) fun x => ok_if.2 ⟨fun _ => hK _ trivial, fun _ => ?_⟩
 refine ok_if.2 ⟨fun _ => hK _ trivial, fun _ => ?_⟩
 refine ok_if.2 ⟨fun _ => hK _ trivial, fun _ => ?_⟩
 refine tot (few_fi v7.1) fun x => ok_if.2 ⟨fun _ => hK _ trivial, fun _ => ?_⟩
 refine tot (few_en v6.1) fun x => ok_if.2 ⟨fun _ => hK _ trivial, fun _ => ?_⟩
 refine ok_if.2 ⟨fun _ => hK _ trivial, fun _ => ?_⟩
 exact ok_if.2 ⟨fun _ => hK _ trivial, fun _ => hK _ trivial⟩
end Go.S
end

section
set_option linter.unusedVariables false
namespace Go.S
open Go Go.V
def nk (n : StateNowP) := (n.work, n.index.map k4, n.refs, (n.head_branch, n.head_commit), (n.seq_kind, n.seq_other, n.seq_text, n.seq_doing, n.seq_todo, n.seq_made, n.seq_branch, (n.seq_head_branch, n.seq_head_commit), n.seq_index.map k4, n.seq_work), n.stash)
def dk (n : Rectoref25NowP) := (n.work, n.index.map e4, (n.head_branch, n.head_commit), n.refs, n.stash, n.seq_kind, n.seq_other, n.seq_text, n.seq_doing, n.seq_todo, n.seq_made, n.seq_branch, (n.seq_head_branch, n.seq_head_commit), n.seq_index.map e4, n.seq_work)
theorem nk_iff {a b : StateNowP} : nk a = nk b ↔ NowEq a b := by
 unfold nk NowEq SeqEq seqOf
 simp only [Prod.mk.injEq]
theorem dk_iff {a b : Rectoref25NowP} : dk a = dk b ↔ DNow a b := by
 unfold dk DNow
 simp only [Prod.mk.injEq]
theorem map_cong {α β γ : Type} {f : α → β} {g : α → γ} (h : ∀ x y, f x = f y ↔ g x = g y) : ∀ {a b : List α}, a.map f = b.map f ↔ a.map g = b.map g
  | [], [] => by simp
  | [], y :: t => by simp
  | x :: s, [] => by simp
  | x :: s, y :: t => by
    simp only [List.map_cons, List.cons.injEq]
    rw [h x y, map_cong h]
theorem dn_map {a b : List StateNowP} : (a.map toNo).map dk = (b.map toNo).map dk ↔ a.map nk = b.map nk := by
 rw [List.map_map, List.map_map]
 exact map_cong fun x y => dk_iff.trans (dnow_iff.trans nk_iff.symm)
def gNo (n : StateNowP) : Prop := vNo n ∧ (encNo n).length ≤ 100000000
noncomputable def kk (s : List UInt8) := nk ((Sh.state_Unmark s).getD (⟨[], [], [], [], 0, [], 0, [], [], [], 0, [], [], 0, [], [], []⟩, .nil)).1
theorem kk_enc {n : StateNowP} (h : gNo n) : kk (encNo n) = nk n := by unfold kk; rw [unmark_fw h.1 h.2]; rfl
theorem q_mark {x y : StateNowP} (hx : gNo x) (hy : gNo y) : Sp (Sh.state_sameMark (encNo x) (encNo y)) (nk x = nk y) := by
 unfold Sh.state_sameMark
 rw [unmark_fw hx.1 hx.2, Option.bind_some, unmark_fw hy.1 hy.2, Option.bind_some]
 refine ok_jnP (fun c => c = false) (fun c hc => ?_) (fun K hK => ?_)
 ·
  subst hc
  rw [if_neg (by simp)]
  exact sp_r ((q_now hx.1).iff nk_iff.symm)
 rw [if_pos (show Err.nil.isNil = true from rfl)]
 exact hK _ rfl
theorem q_marks {a b : List StateNowP} (hl : a.length ≤ 200000000) (ha : ∀ x ∈ a, gNo x) (hb : ∀ x ∈ b, gNo x) : Sp (Sh.slices_EqualFunc_string_string_string_string (a.map encNo) (b.map encNo)) (a.map nk = b.map nk) := by
 unfold Sh.slices_EqualFunc_string_string_string_string
 refine (sp_lists kk kk (a.map encNo) (b.map encNo) _ (fun i x y i0 hi hx hy => ?_) ?_).iff ?_
 ·
  have hi' := hi
  rw [List.length_map] at hi'
  rw [if_pos hi, gl_atv i0 hx, Option.bind_some, gl_atv i0 hy, Option.bind_some]
  obtain ⟨z, hz, rfl⟩ := List.mem_map.1 (List.mem_of_getElem? hx)
  obtain ⟨w, hw, rfl⟩ := List.mem_map.1 (List.mem_of_getElem? hy)
  rw [kk_enc (ha z hz), kk_enc (hb w hw)]
  obtain ⟨r, hr, hh⟩ := (q_mark (ha z hz) (hb w hw)).get
  rw [hr, Option.bind_some]
  cases r with
  | true => exact ok_if.2 ⟨fun q => (by cases q), fun _ => ok_gd.2 ⟨⟨by omega, by omega⟩, ok_go.2 (.inl ⟨hh.1 rfl, rfl⟩)⟩⟩
  | false => exact ok_if.2 ⟨fun _ => ok_up.2 (ok_some.2 (.inr ⟨fun q => (by cases hh.2 q), rfl⟩)), fun q => absurd rfl q⟩
 ·
  rw [if_neg (by omega)]; exact up_up (ok_some.2 rfl)
 have e1 : ∀ l : List StateNowP, (∀ x ∈ l, gNo x) → (l.map encNo).map kk = l.map nk := fun l h => by
   rw [List.map_map]
   exact List.map_congr_left fun x hx => kk_enc (h x hx)
 rw [e1 a ha, e1 b hb]
theorem q_co1 {x y : StateCommitP} (h : vCo x) : Sp (Sh.state_sameCommit x y) (x = y) := by
 unfold Sh.state_sameCommit
 obtain ⟨v1, v2, _, _⟩ := h
 refine sp_b (q_row (by have := v1.1; omega)) (fun h1 => ?_) (fun h => sp_f fun q => h (by rw [q]))
 rw [if_pos rfl]
 refine sp_b (q_in (by have := v2.1; omega)) (fun h2 => ?_) (fun h => sp_f fun q => h (by rw [q]))
 rw [if_pos rfl]
 refine sp_i (fun h3 => ?_) (fun h => sp_f fun q => h (by rw [q]))
 refine sp_d ⟨fun h4 => ?_, fun q => by rw [q]⟩
 cases x; cases y; simp_all
theorem q_co {a b : List StateCommitP} (ha : vL vCo a) : Sp (Sh.slices_EqualFunc_state_Commit_state_Commit_state_Commit_state_Commit a b) (a = b) := by
 unfold Sh.slices_EqualFunc_state_Commit_state_Commit_state_Commit_state_Commit
 have hl := ha.1
 refine (sp_lists (fun z => z) (fun z => z) a b _ (fun i x y i0 hi hx hy => ?_) ?_).iff (map_eq_iff fun _ _ q => q)
 ·
  rw [if_pos hi, gl_atv i0 hx, Option.bind_some, gl_atv i0 hy, Option.bind_some]
  obtain ⟨r, hr, hh⟩ := (q_co1 (y := y) (ha.2 x (List.mem_of_getElem? hx))).get
  rw [hr, Option.bind_some]
  cases r with
  | true => exact ok_if.2 ⟨fun q => (by cases q), fun _ => ok_gd.2 ⟨⟨by omega, by omega⟩, ok_go.2 (.inl ⟨hh.1 rfl, rfl⟩)⟩⟩
  | false => exact ok_if.2 ⟨fun _ => ok_up.2 (ok_some.2 (.inr ⟨fun q => (by cases hh.2 q), rfl⟩)), fun q => absurd rfl q⟩
 rw [if_neg (by omega)]; exact up_up (ok_some.2 rfl)
structure gPl (p : Rectolaw25PlainP) : Prop where
  now : gNo ⟨p.now_work, p.now_index, p.now_refs, p.now_head_branch, p.now_head_commit, p.now_seq_kind, p.now_seq_other, p.now_seq_text, p.now_seq_doing, p.now_seq_todo, p.now_seq_made, p.now_seq_branch, p.now_seq_head_branch, p.now_seq_head_commit, p.now_seq_index, p.now_seq_work, p.now_stash⟩
  co : vL vCo p.commits
  bl : p.back.length ≤ 100000000
  back : ∀ x ∈ p.back, gNo x
  fl : p.forth.length ≤ 100000000
  forth : ∀ x ∈ p.forth, gNo x
  time : I64 p.time
def nowP (p : Rectolaw25PlainP) : StateNowP := ⟨p.now_work, p.now_index, p.now_refs, p.now_head_branch, p.now_head_commit, p.now_seq_kind, p.now_seq_other, p.now_seq_text, p.now_seq_doing, p.now_seq_todo, p.now_seq_made, p.now_seq_branch, p.now_seq_head_branch, p.now_seq_head_commit, p.now_seq_index, p.now_seq_work, p.now_stash⟩
def toS (p : Rectolaw25PlainP) : StateStateP := ⟨p.now_work, p.now_index, p.now_refs, p.now_head_branch, p.now_head_commit, p.now_seq_kind, p.now_seq_other, p.now_seq_text, p.now_seq_doing, p.now_seq_todo, p.now_seq_made, p.now_seq_branch, p.now_seq_head_branch, p.now_seq_head_commit, p.now_seq_index, p.now_seq_work, p.now_stash, p.commits, p.back.map encNo, p.forth.map encNo, p.time⟩
def toCo (c : StateCommitP) : Rectoref25CommitP := ⟨c.tree.map toFile, c.parents, c.time, c.text⟩
theorem toCo_inj : ∀ x y, toCo x = toCo y → x = y := by
 intro x y h
 cases x; cases y
 simp only [toCo, Rectoref25CommitP.mk.injEq, map_eq_iff toFile_inj] at h
 simp_all
def toD (p : Rectolaw25PlainP) : Rectoref25StateP := ⟨p.now_work.map toFile, p.now_index.map toEnt, p.now_refs.map toRef, p.now_head_branch, p.now_head_commit, p.now_seq_kind, p.now_seq_other, p.now_seq_text, p.now_seq_doing.map toStp, p.now_seq_todo.map toStp, p.now_seq_made, p.now_seq_branch, p.now_seq_head_branch, p.now_seq_head_commit, p.now_seq_index.map toEnt, p.now_seq_work.map toFile, p.now_stash.map toShf, p.commits.map toCo, p.back.map toNo, p.forth.map toNo, p.time⟩
def PlEq (a b : Rectolaw25PlainP) : Prop := nk (nowP a) = nk (nowP b) ∧ a.commits = b.commits ∧ a.time = b.time ∧ a.back.map nk = b.back.map nk ∧ a.forth.map nk = b.forth.map nk
theorem q_same {a b : Rectolaw25PlainP} (ha : gPl a) (hb : gPl b) : Sp (Sh.state_Same (toS a) (toS b)) (PlEq a b) := by
 unfold Sh.state_Same PlEq
 have hbl := ha.bl
 have hfl := ha.fl
 refine sp_b ((q_now (a := nowP a) (b := nowP b) ha.now.1).iff nk_iff.symm) (fun h1 => ?_) (fun h => sp_f fun q => h q.1)
 rw [if_pos rfl]
 refine sp_b (q_co (a := a.commits) (b := b.commits) ha.co) (fun h2 => ?_) (fun h => sp_f fun q => h q.2.1)
 rw [if_pos rfl]
 refine sp_i (fun h3 => ?_) (fun h => sp_f fun q => h q.2.2.1)
 refine sp_b (q_marks (a := a.back) (b := b.back) (by omega) ha.back hb.back) (fun h4 => ?_) (fun h => sp_f fun q => h q.2.2.2.1)
 rw [if_pos rfl]
 exact sp_r ((q_marks (a := a.forth) (b := b.forth) (by omega) ha.forth hb.forth).iff ⟨fun h => ⟨h1, h2, h3, h4, h⟩, fun h => h.2.2.2.2⟩)
theorem r_nows {a b : List Rectoref25NowP} (hl : a.length ≤ 200000000) (ha : ∀ x ∈ a, wNo x) : Sp (Sh.r25_sameNows a b) (a.map dk = b.map dk) := by
 unfold Sh.r25_sameNows
 refine sp_lists dk dk a b _ (fun i x y i0 hi hx hy => ?_) ?_
 ·
  rw [if_pos hi, gl_atv i0 hx, Option.bind_some, gl_atv i0 hy, Option.bind_some]
  obtain ⟨r, hr, hh⟩ := ((r_now (b := y) (ha x (List.mem_of_getElem? hx))).iff dk_iff.symm).get
  rw [hr, Option.bind_some]
  cases r with
  | true => exact ok_if.2 ⟨fun q => (by cases q), fun _ => ok_gd.2 ⟨⟨by omega, by omega⟩, ok_go.2 (.inl ⟨hh.1 rfl, rfl⟩)⟩⟩
  | false => exact ok_if.2 ⟨fun _ => ok_up.2 (ok_some.2 (.inr ⟨fun q => (by cases hh.2 q), rfl⟩)), fun q => absurd rfl q⟩
 rw [if_neg (by omega)]; exact up_up (ok_some.2 rfl)
theorem r_cos {a b : List Rectoref25CommitP} (hl : a.length ≤ 200000000) (ha : ∀ x ∈ a, x.tree.length ≤ 200000000 ∧ x.parents.length ≤ 200000000) : Sp (Sh.r25_SameCommits a b) (a = b) := by
 unfold Sh.r25_SameCommits
 refine (sp_lists (fun z => z) (fun z => z) a b _ (fun i x y i0 hi hx hy => ?_) ?_).iff (map_eq_iff fun _ _ q => q)
 ·
  obtain ⟨w1, w2⟩ := ha x (List.mem_of_getElem? hx)
  rw [if_pos hi]
  refine ok_jnP (fun _ => x = y) (fun _ h => ok_gd.2 ⟨⟨by omega, by omega⟩, ok_go.2 (.inl ⟨h, rfl⟩)⟩) (fun K2 hK2 => ?_)
  refine ok_jnP (fun c => c = false ↔ (x.tree = y.tree ∧ x.time = y.time ∧ x.text = y.text ∧ x.parents.length = y.parents.length)) (fun c hc => ?_) (fun K hK => ?_)
  ·
   cases c with
   | true => exact ok_if.2 ⟨fun _ => ok_up.2 (ok_some.2 (.inr ⟨fun q => (by cases hc.2 (by rw [q]; exact ⟨rfl, rfl, rfl, rfl⟩)), rfl⟩)), fun q => absurd rfl q⟩
   | false =>
     refine ok_if.2 ⟨fun q => (by cases q), fun _ => ?_⟩
     obtain ⟨g1, g2, g3, g4⟩ := hc.1 rfl
     refine ok_iter (I := fun k => 0 ≤ k ∧ k ≤ x.parents.length ∧ x.parents.take k.toNat = y.parents.take k.toNat) (μ := fun k => (x.parents.length - k).toNat) ?_ ⟨by omega, by omega, by simp⟩
     rintro k ⟨k0, k1, k2⟩
     rw [gl_atv i0 hx, Option.bind_some]
     by_cases hk : k < x.parents.length
     · obtain ⟨z, hz⟩ := gl_at k0 hk
       obtain ⟨w, hw⟩ := gl_at (l := y.parents) k0 (by omega)
       rw [if_pos hk, Option.bind_some, gl_atv k0 hz, Option.bind_some, gl_atv i0 hy, Option.bind_some, gl_atv k0 hw, Option.bind_some]
       refine ok_if.2 ⟨fun h => ok_gd.2 ⟨⟨by omega, by omega⟩, ok_go.2 ⟨⟨by omega, by omega, ?_⟩, by omega⟩⟩, fun h => ok_up.2 (ok_up.2 (ok_some.2 (.inr ⟨fun q => h ?_, rfl⟩)))⟩
       · rw [gl_snoc k0 hz, gl_snoc k0 hw, k2, h]
       · rw [q, hw] at hz
         cases hz; rfl
     · have e : k = x.parents.length := by omega
       subst e
       rw [List.take_of_length_le (by omega), List.take_of_length_le (by omega)] at k2
       rw [if_neg hk]
       refine ok_up.2 (hK2 _ ?_)
       cases x; cases y; simp_all
  rw [gl_atv i0 hx, Option.bind_some, gl_atv i0 hy, Option.bind_some]
  obtain ⟨r, hr, hh⟩ := (r_fi (b := y.tree) w1).get
  rw [hr, Option.bind_some]
  cases r with
  | false => exact ok_if.2 ⟨fun _ => hK true ⟨fun q => (by cases q), fun q => (by cases hh.2 q.1)⟩, fun q => absurd rfl q⟩
  | true =>
    refine ok_if.2 ⟨fun q => (by cases q), fun _ => ?_⟩
    rw [Option.bind_some, Option.bind_some]
    refine ok_if.2 ⟨fun h2 => ?_, fun h => hK true ⟨fun q => (by cases q), fun q => absurd q.2.1 h⟩⟩
    rw [Option.bind_some, Option.bind_some]
    refine ok_if.2 ⟨fun h3 => ?_, fun h => hK true ⟨fun q => (by cases q), fun q => absurd q.2.2.1 h⟩⟩
    rw [Option.bind_some, Option.bind_some]
    refine hK _ ?_
    have h1 := hh.1 rfl
    simp only [Bool.not_eq_false', decide_eq_true_eq]
    exact ⟨fun h => ⟨h1, h2, h3, by omega⟩, fun h => by omega⟩
 rw [if_neg (by omega)]; exact up_up (ok_some.2 rfl)
theorem r_same {a b : Rectolaw25PlainP} (ha : gPl a) (hb : gPl b) : Sp (Sh.r25_Same (toD a) (toD b)) (PlEq a b) := by
 unfold Sh.r25_Same PlEq
 have hbl := ha.bl
 have hfl := ha.fl
 refine sp_b ((r_now (a := toNo (nowP a)) (b := toNo (nowP b)) (wNo_of ha.now.1)).iff (dnow_iff.trans nk_iff.symm)) (fun h1 => ?_) (fun h => sp_f fun q => h q.1)
 rw [if_pos rfl]
 refine sp_b ((r_cos (a := a.commits.map toCo) (b := b.commits.map toCo) (by rw [List.length_map]; exact ha.co.1) (fun x hx => ?_)).iff (map_eq_iff toCo_inj)) (fun h2 => ?_) (fun h => sp_f fun q => h q.2.1)
 ·
  obtain ⟨z, hz, rfl⟩ := List.mem_map.1 hx
  obtain ⟨v1, v2, _, _⟩ := ha.co.2 z hz
  exact ⟨by simpa [toCo] using v1.1, v2.1⟩
 rw [if_pos rfl]
 refine sp_b ((r_nows (a := a.back.map toNo) (b := b.back.map toNo) (by rw [List.length_map]; omega) (fun x hx => ?_)).iff dn_map) (fun h4 => ?_) (fun h => sp_f fun q => h q.2.2.2.1)
 ·
  obtain ⟨z, hz, rfl⟩ := List.mem_map.1 hx
  exact wNo_of (ha.back z hz).1
 rw [if_pos rfl]
 refine sp_b ((r_nows (a := a.forth.map toNo) (b := b.forth.map toNo) (by rw [List.length_map]; omega) (fun x hx => ?_)).iff dn_map) (fun h5 => ?_) (fun h => sp_f fun q => h q.2.2.2.2)
 ·
  obtain ⟨z, hz, rfl⟩ := List.mem_map.1 hx
  exact wNo_of (ha.forth z hz).1
 rw [if_pos rfl]
 exact sp_d ⟨fun h3 => ⟨h1, h2, h3, h4, h5⟩, fun h => h.2.2.1⟩
theorem to_ok {p : Rectolaw25PlainP} (h : gPl p) : Sh.l25_To p = some (toS p) := by
 apply Ok.eq
 have hbl := h.bl
 have hfl := h.fl
 unfold Sh.l25_To
 refine mp_loopL p.back encNo _ (fun i z i0 hi hz s hs => ?_) ?_
 ·
  have hg := h.back z (List.mem_of_getElem? hz)
  dsimp only
  rw [if_pos hi, gl_atv i0 hz, Option.bind_some, mark_ok hg.1 hg.2, Option.bind_some]
  exact ok_lt.2 (ok_gd.2 ⟨by simp; omega, ok_lt.2 (nx_gd ⟨by omega, by omega⟩ rfl)⟩)
 dsimp only
 rw [if_neg (by omega)]
 refine up_up ?_
 refine mp_loopL p.forth encNo _ (fun i z i0 hi hz s hs => ?_) ?_
 ·
  have hg := h.forth z (List.mem_of_getElem? hz)
  dsimp only
  rw [if_pos hi, gl_atv i0 hz, Option.bind_some, mark_ok hg.1 hg.2, Option.bind_some]
  exact ok_lt.2 (ok_gd.2 ⟨by simp; omega, ok_lt.2 (nx_gd ⟨by omega, by omega⟩ rfl)⟩)
 dsimp only
 rw [if_neg (by omega)]
 exact up_up (ok_some.2 rfl)
theorem nows_ok {l : List StateNowP} (hl : l.length ≤ 100000000) (h : ∀ x ∈ l, gNo x) : Sh.l25_nows (l.map encNo) = some (l.map toNo, true) := by
 apply Ok.eq
 unfold Sh.l25_nows
 refine mp_loop l toNo _ (fun i z i0 hi hz s hs => ?_) ?_
 ·
  have hg := h z (List.mem_of_getElem? hz)
  dsimp only
  rw [if_pos (by rw [List.length_map]; exact hi), gl_atv i0 (gl_map encNo hz), Option.bind_some, unmark_fw hg.1 hg.2, Option.bind_some, if_pos (show Err.nil.isNil = true from rfl), of_now hg.1, Option.bind_some]
  exact ok_lt.2 (ok_gd.2 ⟨by simp; omega, ok_lt.2 (nx_gd ⟨by omega, by omega⟩ rfl)⟩)
 dsimp only
 rw [if_neg (by rw [List.length_map]; omega)]
 exact up_up (ok_some.2 rfl)
theorem of_state {p : Rectolaw25PlainP} (h : gPl p) : Sh.l25_Of (toS p) = some (toD p, true) := by
 apply Ok.eq
 have hcl := h.co.1
 unfold Sh.l25_Of
 have hn : Sh.l25_Now (nowP p) = some (toNo (nowP p)) := of_now h.now.1
 show Ok ((Sh.l25_Now (nowP p)).bind _) _
 rw [hn, Option.bind_some]
 refine mp_loopL p.commits toCo _ (fun i z i0 hi hz s hs => ?_) ?_
 ·
  obtain ⟨v1, _, _, _⟩ := h.co.2 z (List.mem_of_getElem? hz)
  dsimp only [toS]
  refine ok_if.2 ⟨fun _ => ?_, fun q => absurd hi q⟩
  rw [gl_atv i0 hz, Option.bind_some, of_fi v1.1, Option.bind_some]
  exact ok_lt.2 (ok_gd.2 ⟨by simp; omega, ok_lt.2 (nx_gd ⟨by omega, by omega⟩ rfl)⟩)
 dsimp only [toS]
 refine ok_if.2 ⟨fun q => absurd q (by omega), fun _ => ?_⟩
 rw [nows_ok h.bl h.back, Option.bind_some, nows_ok h.fl h.forth, Option.bind_some]
 exact up_up (ok_some.2 rfl)
theorem few_ok {p : Rectolaw25PlainP} (h : gPl p) : Ok (Sh.l25_few p) (fun _ => True) := by
 have hbl := h.bl
 have hfl := h.fl
 have hcl := h.co.1
 unfold Sh.l25_few
 refine ok_jnP (fun _ => True) (fun c _ => ?_) (fun K hK => ?_)
 ·
  refine ok_if.2 ⟨fun _ => ok_some.2 trivial, fun _ => ?_⟩
  refine ok_iter (I := fun i => 0 ≤ i) (μ := fun i => (p.commits.length - i).toNat) ?_ (by decide)
  intro i i0
  refine ok_if.2 ⟨fun hi => ?_, fun _ => ok_up.2 ?_⟩
  ·
   obtain ⟨z, hz⟩ := gl_at i0 hi
   obtain ⟨v1, _, _, _⟩ := h.co.2 z (List.mem_of_getElem? hz)
   refine ok_jnP (fun _ => True) (fun c _ => ok_if.2 ⟨fun _ => ok_up.2 (ok_some.2 trivial), fun _ => ok_gd.2 ⟨⟨by omega, by omega⟩, ok_go.2 ⟨show (0 : Int) ≤ i + 1 by omega, by omega⟩⟩⟩) (fun K hK => ?_)
   rw [gl_atv i0 hz, Option.bind_some]
   refine tot (few_fi v1.1) fun x => ok_if.2 ⟨fun _ => hK _ trivial, fun _ => ?_⟩
   rw [Option.bind_some]
   refine ok_if.2 ⟨fun _ => hK _ trivial, fun _ => ?_⟩
   rw [Option.bind_some]
   exact hK _ trivial
  refine ok_iter (I := fun i => 0 ≤ i) (μ := fun i => (p.back.length - i).toNat) ?_ (by decide)
  intro i i0
  refine ok_if.2 ⟨fun hi => ?_, fun _ => ok_up.2 ?_⟩
  ·
   obtain ⟨z, hz⟩ := gl_at i0 hi
   rw [gl_atv i0 hz, Option.bind_some]
   exact tot (few_no (h.back z (List.mem_of_getElem? hz)).1) fun x => ok_if.2 ⟨fun _ => ok_up.2 (ok_some.2 trivial), fun _ => ok_gd.2 ⟨⟨by omega, by omega⟩, ok_go.2 ⟨show (0 : Int) ≤ i + 1 by omega, by omega⟩⟩⟩
  refine ok_iter (I := fun i => 0 ≤ i) (μ := fun i => (p.forth.length - i).toNat) ?_ (by decide)
  intro i i0
  refine ok_if.2 ⟨fun hi => ?_, fun _ => ok_up.2 (ok_some.2 trivial)⟩
  obtain ⟨z, hz⟩ := gl_at i0 hi
  rw [gl_atv i0 hz, Option.bind_some]
  exact tot (few_no (h.forth z (List.mem_of_getElem? hz)).1) fun x => ok_if.2 ⟨fun _ => ok_up.2 (ok_some.2 trivial), fun _ => ok_gd.2 ⟨⟨by omega, by omega⟩, ok_go.2 ⟨show (0 : Int) ≤ i + 1 by omega, by omega⟩⟩⟩
 refine tot (few_no (n := nowP p) h.now.1) fun x => ok_if.2 ⟨fun _ => hK _ trivial, fun _ => ?_⟩
 refine ok_if.2 ⟨fun _ => hK _ trivial, fun _ => ?_⟩
 exact ok_if.2 ⟨fun _ => hK _ trivial, fun _ => hK _ trivial⟩
theorem b_co (x : StateCommitP) : Bk.bk x = Bk.bk x.tree + Bk.bk x.parents + Bk.bk x.time + Bk.bk x.text := rfl
theorem p_co (x : StateCommitP) : 1 ≤ Bk.bk x := by have := b_co x; have := p_int x.time; omega
theorem v_co {x : StateCommitP} (r : Rp.rp x) (b : Bk.bk x ≤ 2000000) : vCo x ∧ (encCo x).length ≤ 12 * Bk.bk x := by
 have h := b_co x
 obtain ⟨r1, r2, r3⟩ := r
 have h1 := v_fis (l := x.tree) r1 (by omega)
 have h2 := v_ins (l := x.parents) r2 (by omega)
 have h3 := il r3
 have h4 := tl (s := x.text) (by omega)
 refine ⟨⟨h1.1, h2.1, r3, tv (by omega)⟩, ?_⟩
 have := h1.2; have := h2.2
 simp only [encCo, List.length_append]; omega
theorem g_no {x : StateNowP} (r : Rp.rp x) (b : Bk.bk x ≤ 2000000) : gNo x := ⟨(v_no r b).1, by have := (v_no r b).2; omega⟩
theorem b_pl (p : Rectolaw25PlainP) : Bk.bk p = Bk.bk (nowP p) + Bk.bk p.commits + Bk.bk p.back + Bk.bk p.forth + Bk.bk p.time := rfl
theorem rp_nowP {p : Rectolaw25PlainP} (r : Rp.rp p) : Rp.rp (nowP p) := ⟨r.1, r.2.1, r.2.2.1, r.2.2.2.1, r.2.2.2.2.1, r.2.2.2.2.2.1, r.2.2.2.2.2.2.1, r.2.2.2.2.2.2.2.1, r.2.2.2.2.2.2.2.2.1, r.2.2.2.2.2.2.2.2.2.1, r.2.2.2.2.2.2.2.2.2.2.1, r.2.2.2.2.2.2.2.2.2.2.2.1⟩
theorem rp_rest {p : Rectolaw25PlainP} (r : Rp.rp p) : (∀ z ∈ p.commits, Rp.rp z) ∧ (∀ z ∈ p.back, Rp.rp z) ∧ (∀ z ∈ p.forth, Rp.rp z) ∧ I64 p.time := r.2.2.2.2.2.2.2.2.2.2.2.2
theorem part5 {n a b c d e k : Nat} (h : n = a + b + c + d + e) (hn : n ≤ k) : a ≤ k ∧ b ≤ k ∧ c ≤ k ∧ d ≤ k := by omega
theorem len_of {l b : Nat} (h : l + 1 ≤ b) (hb : b ≤ 2000000) : l ≤ 100000000 := by omega
theorem mem_of {x b k : Nat} (h : x + 1 ≤ b) (hb : b ≤ k) : x ≤ k := by omega
theorem g_pl {p : Rectolaw25PlainP} (r : Rp.rp p) (b : Bk.bk p ≤ 2000000) : gPl p :=
  have h := part5 (b_pl p) b
  have hr := rp_rest r
  ⟨g_no (rp_nowP r) h.1, vl h.2.1 p_co fun x hx hb => (v_co (hr.1 x hx) hb).1, len_of (bk_len p_no p.back) h.2.2.1, fun x hx => g_no (hr.2.1 x hx) (mem_of (bk_mem hx) h.2.2.1), len_of (bk_len p_no p.forth) h.2.2.2, fun x hx => g_no (hr.2.2.1 x hx) (mem_of (bk_mem hx) h.2.2.2), hr.2.2.2⟩
end Go.S
end

section
set_option linter.unusedVariables false
namespace Go.S
open Go Go.V
theorem take_sum {α : Type} (w : α → Nat) {l : List α} {i : Nat} {z : α} (hz : l[i]? = some z) : ((l.take i).map w).sum + w z ≤ (l.map w).sum := by
 have h := take_split hz
 have e : (l.map w).sum = ((l.take i).map w).sum + (w z + ((l.drop (i + 1)).map w).sum) := by
   conv => lhs; rw [h]
   rw [List.map_append, List.sum_append, List.map_cons, List.sum_cons]
 omega
theorem fold_sum {α : Type} (w : α → Nat) : ∀ (l : List α) (c : Int), l.foldl (fun (c : Int) z => c + (w z : Int)) c = c + ((l.map w).sum : Nat)
  | [], c => by simp
  | x :: r, c => by rw [List.foldl_cons, fold_sum w r]; simp only [List.map_cons, List.sum_cons]; omega
theorem sum_loop {α R : Type} {Q : R → Prop} (l : List α) (w : α → Nat) (c0 : Int) (B : Int × Int → Option ((Int × Int) ⊕ R))
 (hB : ∀ (i : Int) z (c : Int), 0 ≤ i → i < l.length → l[i.toNat]? = some z → z ∈ l → c0 ≤ c → c + w z ≤ c0 + ((l.map w).sum : Nat) → Ok (B (i, c)) (Nx (i + 1, c + w z)))
 (hE : Ok (B ((l.length : Int), c0 + ((l.map w).sum : Nat))) (Up Q)) : Ok (iter B (0, c0)) Q := by
 refine gl_foldL l (fun (c : Int) z => c + (w z : Int)) c0 B (fun i z i0 hi hz s hs => ?_) (fun s hs => by rw [fold_sum] at hs; rw [hs]; exact hE)
 rw [fold_sum] at hs
 have h1 := take_sum w hz
 exact hB i z s i0 hi hz (List.mem_of_getElem? hz) (by omega) (by omega)
theorem sum_loopR {α R : Type} {Q : R → Prop} (l : List α) (w : α → Nat) (c0 : Int) (B : Int × Int → Option ((Int × Int) ⊕ R))
 (hB : ∀ (i : Int) z (c : Int), 0 ≤ i → i < l.length → l[i.toNat]? = some z → z ∈ l → c0 ≤ c → c + w z ≤ c0 + ((l.map w).sum : Nat) → Ok (B (c, i)) (Nx (c + w z, i + 1)))
 (hE : Ok (B (c0 + ((l.map w).sum : Nat), (l.length : Int))) (Up Q)) : Ok (iter B (c0, 0)) Q := by
 refine gl_fold l (fun (c : Int) z => c + (w z : Int)) c0 B (fun i z i0 hi hz s hs => ?_) (fun s hs => by rw [fold_sum] at hs; rw [hs]; exact hE)
 rw [fold_sum] at hs
 have h1 := take_sum w hz
 exact hB i z s i0 hi hz (List.mem_of_getElem? hz) (by omega) (by omega)
def lT (s : List UInt8) : Nat := s.length
def w1 (x : FilesFile) : Nat := 16 + x.path.length + x.data.length
def w2 (x : IndexEntry) : Nat := 16 + x.path.length + x.data.length
def w3 (x : NamesRef) : Nat := 16 + x.name.length
def w4 (x : TodoStep) : Nat := 16 + x.verb.length + x.text.length
def wFi (l : List FilesFile) : Nat := (l.map w1).sum
def wEn (l : List IndexEntry) : Nat := (l.map w2).sum
def w5 (x : ShelfShelfP) : Nat := 16 + x.text.length + wFi x.index + wFi x.work
def w6 (x : StateCommitP) : Nat := 16 + x.text.length + wFi x.tree
def gW (n : StateNowP) : Nat := wFi n.work + wEn n.index + (n.refs.map w3).sum + (n.head_branch.length + n.seq_kind.length + n.seq_text.length + n.seq_branch.length + n.seq_head_branch.length) + ((n.seq_doing.map w4).sum + (n.seq_todo.map w4).sum) + wEn n.seq_index + wFi n.seq_work + (n.stash.map w5).sum
theorem encT_ge (s : List UInt8) : s.length + 1 ≤ (encT s).length := by
 have := encI_pos ((s.length : Nat) : Int)
 rw [encT, List.length_append]; omega
theorem sum_enc {α : Type} (w : α → Nat) (enc : α → List UInt8) (h : ∀ x, w x ≤ 16 * (enc x).length) : ∀ l : List α, (l.map w).sum + 16 ≤ 16 * (encL enc l).length := by
 have key : ∀ l : List α, (l.map w).sum ≤ 16 * (l.flatMap enc).length := by
   intro l
   induction l with
   | nil => simp
   | cons x r ih => simp only [List.map_cons, List.sum_cons, List.flatMap_cons, List.length_append]; have := h x; omega
 intro l
 have := encI_pos ((l.length : Nat) : Int)
 have := key l
 rw [encL, List.length_append]; omega
theorem w1_le (x : FilesFile) : w1 x ≤ 16 * (encFi x).length := by
 have := encT_ge x.path; have := encT_ge x.data; have := encI_pos x.mode
 simp only [w1, encFi, List.length_append]; omega
theorem w2_le (x : IndexEntry) : w2 x ≤ 16 * (encEn x).length := by
 have := encT_ge x.path; have := encT_ge x.data
 simp only [w2, encEn, List.length_append]; omega
theorem w3_le (x : NamesRef) : w3 x ≤ 16 * (encRe x).length := by
 have := encT_ge x.name
 simp only [w3, encRe, List.length_append]; omega
theorem w4_le (x : TodoStep) : w4 x ≤ 16 * (encSt x).length := by
 have := encT_ge x.verb; have := encT_ge x.text
 simp only [w4, encSt, List.length_append]; omega
theorem wFi_le (l : List FilesFile) : wFi l + 16 ≤ 16 * (encL encFi l).length := sum_enc w1 encFi w1_le l
theorem wEn_le (l : List IndexEntry) : wEn l + 16 ≤ 16 * (encL encEn l).length := sum_enc w2 encEn w2_le l
theorem w5_le (x : ShelfShelfP) : w5 x ≤ 16 * (encSh x).length := by
 have := encT_ge x.text; have := wFi_le x.index; have := wFi_le x.work
 simp only [w5, encSh, List.length_append]; omega
theorem w6_le (x : StateCommitP) : w6 x ≤ 16 * (encCo x).length := by
 have := encT_ge x.text; have := wFi_le x.tree
 simp only [w6, encCo, List.length_append]; omega
theorem wNo_le (n : StateNowP) : gW n ≤ 16 * (encNo n).length := by
 have h1 := wFi_le n.work; have h2 := wEn_le n.index; have h3 := sum_enc w3 encRe w3_le n.refs; have h4 := encT_ge n.head_branch
 have h5 := encT_ge n.seq_kind; have h6 := encT_ge n.seq_text; have h7 := encT_ge n.seq_branch; have h8 := encT_ge n.seq_head_branch
 have h9 := sum_enc w4 encSt w4_le n.seq_doing; have ha := sum_enc w4 encSt w4_le n.seq_todo; have hb := wEn_le n.seq_index; have hc := wFi_le n.seq_work
 have hd := sum_enc w5 encSh w5_le n.stash
 simp only [gW, encNo, encSq, encHe, seqOf, List.length_append]; omega
theorem sc_texts {c : Int} {l : List (List UInt8)} (c0 : 0 ≤ c) (hl : l.length ≤ 300000000) (hc : c + ((l.map lT).sum : Nat) ≤ 4000000000000000000) : Sh.state_scale_texts ⟨c⟩ l = some ⟨c + ((l.map lT).sum : Nat)⟩ := by
 apply Ok.eq
 unfold Sh.state_scale_texts
 refine sum_loop l lT c _ (fun i z s i0 hi hz _ h1 h2 => ?_) ?_
 ·
  dsimp only
  rw [if_pos hi, gl_atv i0 hz, Option.bind_some]
  have e : lT z = z.length := rfl
  exact ok_gd.2 ⟨⟨by omega, by omega⟩, nx_gd ⟨by omega, by omega⟩ rfl⟩
 dsimp only
 rw [if_neg (by omega)]
 exact up_up (ok_some.2 rfl)
theorem sc_thing {c : Int} {l : List (List UInt8)} (c0 : 0 ≤ c) (hl : l.length ≤ 300000000) (hc : c + 16 + ((l.map lT).sum : Nat) ≤ 4000000000000000000) : Sh.state_scale_thing ⟨c⟩ l = some ⟨c + 16 + ((l.map lT).sum : Nat)⟩ := by
 apply Ok.eq
 unfold Sh.state_scale_thing
 refine ok_gd.2 ⟨⟨by dsimp only; omega, by dsimp only; omega⟩, ?_⟩
 dsimp only
 rw [sc_texts (by omega) hl (by omega), Option.bind_some]
 exact ok_some.2 rfl
theorem sc_row {c : Int} {l : List FilesFile} (c0 : 0 ≤ c) (hl : l.length ≤ 300000000) (hc : c + ((l.map w1).sum : Nat) ≤ 4000000000000000000) : Sh.state_scale_row ⟨c⟩ l = some ⟨c + ((l.map w1).sum : Nat)⟩ := by
 apply Ok.eq
 unfold Sh.state_scale_row
 refine sum_loop l w1 c _ (fun i z s i0 hi hz _ h1 h2 => ?_) ?_
 ·
  have e : (([z.path, z.data] : List (List UInt8)).map lT).sum + 16 = w1 z := by simp [lT, w1]; omega
  dsimp only
  rw [if_pos hi, gl_atv i0 hz, Option.bind_some]
  refine ok_lt.2 ?_
  rw [sc_thing (by omega) (by simp) (by omega), Option.bind_some]
  exact nx_gd ⟨by omega, by omega⟩ (by dsimp only; rw [← e]; congr 1; omega)
 dsimp only
 rw [if_neg (by omega)]
 exact up_up (ok_some.2 rfl)
theorem sc_ent {c : Int} {l : List IndexEntry} (c0 : 0 ≤ c) (hl : l.length ≤ 300000000) (hc : c + ((l.map w2).sum : Nat) ≤ 4000000000000000000) : Sh.state_scale_entries ⟨c⟩ l = some ⟨c + ((l.map w2).sum : Nat)⟩ := by
 apply Ok.eq
 unfold Sh.state_scale_entries
 refine sum_loop l w2 c _ (fun i z s i0 hi hz _ h1 h2 => ?_) ?_
 ·
  have e : (([z.path, z.data] : List (List UInt8)).map lT).sum + 16 = w2 z := by simp [lT, w2]; omega
  dsimp only
  rw [if_pos hi, gl_atv i0 hz, Option.bind_some]
  refine ok_lt.2 ?_
  rw [sc_thing (by omega) (by simp) (by omega), Option.bind_some]
  exact nx_gd ⟨by omega, by omega⟩ (by dsimp only; rw [← e]; congr 1; omega)
 dsimp only
 rw [if_neg (by omega)]
 exact up_up (ok_some.2 rfl)
theorem grow_todo_Step_todo_Step {n : Int} (h : 0 ≤ n) (g : n ≤ 4000000000) : Sh.slices_Grow_todo_Step_todo_Step n = some [] := by
 apply Ok.eq
 unfold Sh.slices_Grow_todo_Step_todo_Step
 refine ok_if.2 ⟨fun q => (by omega), fun _ => ok_gd.2 ⟨⟨by omega, by omega⟩, ok_gd.2 ⟨⟨by omega, by omega⟩, ok_if.2 ⟨fun q => ok_gd.2 ⟨⟨by omega, by omega⟩, ok_lt.2 (ok_lt.2 (ok_some.2 rfl))⟩, fun _ => ok_some.2 rfl⟩⟩⟩⟩
theorem cat_todo_Step_todo_Step {a b : List TodoStep} (ha : a.length ≤ 1000000000) (hb : b.length ≤ 1000000000) : Sh.slices_Concat_todo_Step_todo_Step [a, b] = some (a ++ b) := by
 apply Ok.eq
 unfold Sh.slices_Concat_todo_Step_todo_Step
 refine gl_fold [a, b] (fun (s : Int) z => s + z.length) 0 _ (fun i z i0 hi hz s hs => ?_) (fun s hs => ?_)
 ·
  dsimp only
  rw [if_pos hi, gl_atv i0 hz, Option.bind_some]
  have h2 : s ≤ 1000000000 ∧ 0 ≤ s ∧ z.length ≤ 1000000000 := by
    simp only [List.length_cons, List.length_nil] at hi
    rcases (by omega : i = 0 ∨ i = 1) with rfl | rfl
    · simp at hz hs; subst hz; omega
    · simp at hz hs; subst hz; omega
  simp only [List.length_cons, List.length_nil] at hi
  exact ok_gd.2 ⟨⟨by omega, by omega⟩, ok_if.2 ⟨fun q => (by omega), fun _ => nx_gd ⟨by omega, by omega⟩ rfl⟩⟩
 dsimp only
 rw [if_neg (by omega)]
 simp only [List.foldl_cons, List.foldl_nil] at hs
 rw [grow_todo_Step_todo_Step (by omega) (by omega), Option.bind_some]
 refine up_up ?_
 refine gl_fold [a, b] (fun s z => s ++ z) [] _ (fun i z i0 hi hz s hs => ?_) (fun s hs => ?_)
 ·
  dsimp only
  rw [if_pos hi, gl_atv i0 hz, Option.bind_some]
  have h2 : s.length ≤ 1000000000 ∧ z.length ≤ 1000000000 := by
    simp only [List.length_cons, List.length_nil] at hi
    rcases (by omega : i = 0 ∨ i = 1) with rfl | rfl
    · simp at hz hs; subst hz; subst hs; simp; omega
    · simp at hz hs; subst hz; subst hs; omega
  simp only [List.length_cons, List.length_nil] at hi
  exact ok_gd.2 ⟨by omega, ok_lt.2 (nx_gd ⟨by omega, by omega⟩ rfl)⟩
 dsimp only
 rw [if_neg (by omega)]
 exact up_up (ok_some.2 (by rw [hs]; simp))
theorem grow_string_string {n : Int} (h : 0 ≤ n) (g : n ≤ 4000000000) : Sh.slices_Grow_string_string n = some [] := by
 apply Ok.eq
 unfold Sh.slices_Grow_string_string
 refine ok_if.2 ⟨fun q => (by omega), fun _ => ok_gd.2 ⟨⟨by omega, by omega⟩, ok_gd.2 ⟨⟨by omega, by omega⟩, ok_if.2 ⟨fun q => ok_gd.2 ⟨⟨by omega, by omega⟩, ok_lt.2 (ok_lt.2 (ok_some.2 rfl))⟩, fun _ => ok_some.2 rfl⟩⟩⟩⟩
theorem cat_string_string {a b : List (List UInt8)} (ha : a.length ≤ 1000000000) (hb : b.length ≤ 1000000000) : Sh.slices_Concat_string_string [a, b] = some (a ++ b) := by
 apply Ok.eq
 unfold Sh.slices_Concat_string_string
 refine gl_fold [a, b] (fun (s : Int) z => s + z.length) 0 _ (fun i z i0 hi hz s hs => ?_) (fun s hs => ?_)
 ·
  dsimp only
  rw [if_pos hi, gl_atv i0 hz, Option.bind_some]
  have h2 : s ≤ 1000000000 ∧ 0 ≤ s ∧ z.length ≤ 1000000000 := by
    simp only [List.length_cons, List.length_nil] at hi
    rcases (by omega : i = 0 ∨ i = 1) with rfl | rfl
    · simp at hz hs; subst hz; omega
    · simp at hz hs; subst hz; omega
  simp only [List.length_cons, List.length_nil] at hi
  exact ok_gd.2 ⟨⟨by omega, by omega⟩, ok_if.2 ⟨fun q => (by omega), fun _ => nx_gd ⟨by omega, by omega⟩ rfl⟩⟩
 dsimp only
 rw [if_neg (by omega)]
 simp only [List.foldl_cons, List.foldl_nil] at hs
 rw [grow_string_string (by omega) (by omega), Option.bind_some]
 refine up_up ?_
 refine gl_fold [a, b] (fun s z => s ++ z) [] _ (fun i z i0 hi hz s hs => ?_) (fun s hs => ?_)
 ·
  dsimp only
  rw [if_pos hi, gl_atv i0 hz, Option.bind_some]
  have h2 : s.length ≤ 1000000000 ∧ z.length ≤ 1000000000 := by
    simp only [List.length_cons, List.length_nil] at hi
    rcases (by omega : i = 0 ∨ i = 1) with rfl | rfl
    · simp at hz hs; subst hz; subst hs; simp; omega
    · simp at hz hs; subst hz; subst hs; omega
  simp only [List.length_cons, List.length_nil] at hi
  exact ok_gd.2 ⟨by omega, ok_lt.2 (nx_gd ⟨by omega, by omega⟩ rfl)⟩
 dsimp only
 rw [if_neg (by omega)]
 exact up_up (ok_some.2 (by rw [hs]; simp))
theorem sc_now {c : Int} {n : StateNowP} (c0 : 0 ≤ c) (hv : vNo n) (hc : c + (gW n : Nat) ≤ 4000000000000000000) : Sh.state_scale_now ⟨c⟩ n = some ⟨c + (gW n : Nat)⟩ := by
 obtain ⟨v1, v2, v3, _, ⟨_, _, _, v4, v5, _, _, _, v6, v7⟩, v8⟩ := hv
 have l1 := v1.1; have l2 := v2.1; have l3 := v3.1; have l4 := v4.1; have l5 := v5.1; have l6 := v6.1; have l7 := v7.1; have l8 := v8.1
 dsimp only [seqOf] at l4 l5 l6 l7
 have ew : gW n = (n.work.map w1).sum + (n.index.map w2).sum + (n.refs.map w3).sum + (n.head_branch.length + n.seq_kind.length + n.seq_text.length + n.seq_branch.length + n.seq_head_branch.length) + ((n.seq_doing.map w4).sum + (n.seq_todo.map w4).sum) + (n.seq_index.map w2).sum + (n.seq_work.map w1).sum + (n.stash.map w5).sum := rfl
 rw [ew] at hc ⊢
 apply Ok.eq
 unfold Sh.state_scale_now
 rw [sc_row c0 (by omega) (by omega), Option.bind_some, sc_ent (by omega) (by omega) (by omega), Option.bind_some]
 dsimp only
 refine sum_loop n.refs w3 _ _ (fun i z s i0 hi hz _ h1 h2 => ?_) ?_
 ·
  have e : (([z.name] : List (List UInt8)).map lT).sum + 16 = w3 z := by simp [lT, w3]; omega
  dsimp only
  rw [if_pos hi, gl_atv i0 hz, Option.bind_some]
  refine ok_lt.2 ?_
  rw [sc_thing (by omega) (by simp) (by omega), Option.bind_some]
  exact nx_gd ⟨by omega, by omega⟩ (by dsimp only; rw [← e]; congr 1; omega)
 dsimp only
 rw [if_neg (by omega)]
 refine up_up (ok_lt.2 ?_)
 have e5 : (([n.head_branch, n.seq_kind, n.seq_text, n.seq_branch, n.seq_head_branch] : List (List UInt8)).map lT).sum = n.head_branch.length + n.seq_kind.length + n.seq_text.length + n.seq_branch.length + n.seq_head_branch.length := by simp [lT]; omega
 rw [sc_texts (by omega) (by simp) (by omega), Option.bind_some, e5]
 refine ok_lt.2 ?_
 rw [cat_todo_Step_todo_Step (by omega) (by omega), Option.bind_some]
 dsimp only
 have ea : ((n.seq_doing ++ n.seq_todo).map w4).sum = (n.seq_doing.map w4).sum + (n.seq_todo.map w4).sum := by rw [List.map_append, List.sum_append]
 have la : (n.seq_doing ++ n.seq_todo).length ≤ 400000000 := by rw [List.length_append]; omega
 refine sum_loop (n.seq_doing ++ n.seq_todo) w4 _ _ (fun i z s i0 hi hz _ h1 h2 => ?_) ?_
 ·
  have e : (([z.verb, z.text] : List (List UInt8)).map lT).sum + 16 = w4 z := by simp [lT, w4]; omega
  dsimp only
  rw [if_pos hi, gl_atv i0 hz, Option.bind_some]
  refine ok_lt.2 ?_
  rw [sc_thing (by omega) (by simp) (by omega), Option.bind_some]
  exact nx_gd ⟨by omega, by omega⟩ (by dsimp only; rw [← e]; congr 1; omega)
 dsimp only
 rw [if_neg (by omega), ea]
 refine up_up ?_
 rw [sc_ent (by omega) (by omega) (by omega), Option.bind_some, sc_row (by omega) (by omega) (by omega), Option.bind_some]
 dsimp only
 refine sum_loop n.stash w5 _ _ (fun i z s i0 hi hz hm h1 h2 => ?_) ?_
 ·
  obtain ⟨_, u1, u2, _⟩ := v8.2 z hm
  have m1 := u1.1; have m2 := u2.1
  have e : w5 z = 16 + z.text.length + (z.index.map w1).sum + (z.work.map w1).sum := rfl
  have e1 : (([z.text] : List (List UInt8)).map lT).sum = z.text.length := by simp [lT]
  dsimp only
  rw [if_pos hi, gl_atv i0 hz, Option.bind_some]
  refine ok_lt.2 ?_
  rw [sc_thing (by omega) (by simp) (by omega), Option.bind_some, e1, sc_row (by omega) (by omega) (by omega), Option.bind_some, sc_row (by omega) (by omega) (by omega), Option.bind_some]
  exact nx_gd ⟨by omega, by omega⟩ (by dsimp only; rw [e]; congr 1; omega)
 dsimp only
 rw [if_neg (by omega)]
 refine up_up (ok_some.2 ?_)
 congr 1
 omega
theorem r_weigh {l : List FilesFile} (hl : l.length ≤ 300000000) (hc : (l.map w1).sum ≤ 4000000000000000000) : Sh.r25_weigh (l.map toFile) = some (((l.map w1).sum : Nat) : Int) := by
 apply Ok.eq
 unfold Sh.r25_weigh
 rw [← Int.zero_add (((l.map w1).sum : Nat) : Int)]
 refine sum_loopR l w1 0 _ (fun i z s i0 hi hz _ h1 h2 => ?_) ?_
 ·
  have e : w1 z = 16 + z.path.length + z.data.length := rfl
  have hm := gl_map toFile hz
  dsimp only
  rw [if_pos (by rw [List.length_map]; exact hi)]
  refine ok_gd.2 ⟨⟨by omega, by omega⟩, ?_⟩
  simp only [gl_atv i0 hm, Option.bind_some]
  exact ok_gd.2 ⟨⟨by dsimp only [toFile]; omega, by dsimp only [toFile]; omega⟩, ok_gd.2 ⟨⟨by dsimp only [toFile]; omega, by dsimp only [toFile]; omega⟩, nx_gd ⟨by omega, by omega⟩ (by dsimp only [toFile]; rw [e]; congr 1; omega)⟩⟩
 dsimp only
 rw [if_neg (by rw [List.length_map]; omega)]
 exact up_up (ok_some.2 rfl)
theorem r_weighI {l : List IndexEntry} (hl : l.length ≤ 300000000) (hc : (l.map w2).sum ≤ 4000000000000000000) : Sh.r25_weighIndex (l.map toEnt) = some (((l.map w2).sum : Nat) : Int) := by
 apply Ok.eq
 unfold Sh.r25_weighIndex
 rw [← Int.zero_add (((l.map w2).sum : Nat) : Int)]
 refine sum_loopR l w2 0 _ (fun i z s i0 hi hz _ h1 h2 => ?_) ?_
 ·
  have e : w2 z = 16 + z.path.length + z.data.length := rfl
  have hm := gl_map toEnt hz
  dsimp only
  rw [if_pos (by rw [List.length_map]; exact hi)]
  refine ok_gd.2 ⟨⟨by omega, by omega⟩, ?_⟩
  simp only [gl_atv i0 hm, Option.bind_some]
  exact ok_gd.2 ⟨⟨by dsimp only [toEnt]; omega, by dsimp only [toEnt]; omega⟩, ok_gd.2 ⟨⟨by dsimp only [toEnt]; omega, by dsimp only [toEnt]; omega⟩, nx_gd ⟨by omega, by omega⟩ (by dsimp only [toEnt]; rw [e]; congr 1; omega)⟩⟩
 dsimp only
 rw [if_neg (by rw [List.length_map]; omega)]
 exact up_up (ok_some.2 rfl)
theorem r_weighS {l : List TodoStep} (hl : l.length ≤ 300000000) (hc : (l.map w4).sum ≤ 4000000000000000000) : Sh.r25_weighSteps (l.map toStp) = some (((l.map w4).sum : Nat) : Int) := by
 apply Ok.eq
 unfold Sh.r25_weighSteps
 rw [← Int.zero_add (((l.map w4).sum : Nat) : Int)]
 refine sum_loopR l w4 0 _ (fun i z s i0 hi hz _ h1 h2 => ?_) ?_
 ·
  have e : w4 z = 16 + z.verb.length + z.text.length := rfl
  have hm := gl_map toStp hz
  dsimp only
  rw [if_pos (by rw [List.length_map]; exact hi)]
  refine ok_gd.2 ⟨⟨by omega, by omega⟩, ?_⟩
  simp only [gl_atv i0 hm, Option.bind_some]
  exact ok_gd.2 ⟨⟨by dsimp only [toStp]; omega, by dsimp only [toStp]; omega⟩, ok_gd.2 ⟨⟨by dsimp only [toStp]; omega, by dsimp only [toStp]; omega⟩, nx_gd ⟨by omega, by omega⟩ (by dsimp only [toStp]; rw [e]; congr 1; omega)⟩⟩
 dsimp only
 rw [if_neg (by rw [List.length_map]; omega)]
 exact up_up (ok_some.2 rfl)
theorem r_wno {n : StateNowP} (hv : vNo n) (hc : gW n ≤ 4000000000000000000) : Sh.r25_weighNow (toNo n) = some ((gW n : Nat) : Int) := by
 obtain ⟨v1, v2, v3, _, ⟨_, _, _, v4, v5, _, _, _, v6, v7⟩, v8⟩ := hv
 have l1 := v1.1; have l2 := v2.1; have l3 := v3.1; have l4 := v4.1; have l5 := v5.1; have l6 := v6.1; have l7 := v7.1; have l8 := v8.1
 dsimp only [seqOf] at l4 l5 l6 l7
 have ew : gW n = (n.work.map w1).sum + (n.index.map w2).sum + (n.refs.map w3).sum + (n.head_branch.length + n.seq_kind.length + n.seq_text.length + n.seq_branch.length + n.seq_head_branch.length) + ((n.seq_doing.map w4).sum + (n.seq_todo.map w4).sum) + (n.seq_index.map w2).sum + (n.seq_work.map w1).sum + (n.stash.map w5).sum := rfl
 rw [ew] at hc ⊢
 apply Ok.eq
 unfold Sh.r25_weighNow toNo
 dsimp only
 rw [r_weigh (by omega) (by omega), Option.bind_some, r_weighI (by omega) (by omega), Option.bind_some]
 refine ok_gd.2 ⟨⟨by omega, by omega⟩, ok_gd.2 ⟨⟨by omega, by omega⟩, ok_gd.2 ⟨⟨by omega, by omega⟩, ok_gd.2 ⟨⟨by omega, by omega⟩, ?_⟩⟩⟩⟩
 rw [r_weighS (by omega) (by omega), Option.bind_some]
 refine ok_gd.2 ⟨⟨by omega, by omega⟩, ?_⟩
 rw [r_weighS (by omega) (by omega), Option.bind_some]
 refine ok_gd.2 ⟨⟨by omega, by omega⟩, ok_gd.2 ⟨⟨by omega, by omega⟩, ok_gd.2 ⟨⟨by omega, by omega⟩, ?_⟩⟩⟩
 rw [r_weighI (by omega) (by omega), Option.bind_some]
 refine ok_gd.2 ⟨⟨by omega, by omega⟩, ?_⟩
 rw [r_weigh (by omega) (by omega), Option.bind_some]
 refine ok_gd.2 ⟨⟨by omega, by omega⟩, ?_⟩
 refine sum_loopR n.refs w3 _ _ (fun i z s i0 hi hz _ h1 h2 => ?_) ?_
 ·
  have e : w3 z = 16 + z.name.length := rfl
  have hm := gl_map toRef hz
  dsimp only
  rw [if_pos (by rw [List.length_map]; exact hi)]
  refine ok_gd.2 ⟨⟨by omega, by omega⟩, ?_⟩
  simp only [gl_atv i0 hm, Option.bind_some]
  exact ok_gd.2 ⟨⟨by dsimp only [toRef]; omega, by dsimp only [toRef]; omega⟩, nx_gd ⟨by omega, by omega⟩ (by dsimp only [toRef]; rw [e]; congr 1; omega)⟩
 dsimp only
 rw [if_neg (by rw [List.length_map]; omega)]
 refine up_up ?_
 refine sum_loopR n.stash w5 _ _ (fun i z s i0 hi hz hm0 h1 h2 => ?_) ?_
 ·
  obtain ⟨_, u1, u2, _⟩ := v8.2 z hm0
  have m1 := u1.1; have m2 := u2.1
  have e : w5 z = 16 + z.text.length + (z.index.map w1).sum + (z.work.map w1).sum := rfl
  have hm := gl_map toShf hz
  dsimp only
  rw [if_pos (by rw [List.length_map]; exact hi)]
  refine ok_gd.2 ⟨⟨by omega, by omega⟩, ?_⟩
  simp only [gl_atv i0 hm, Option.bind_some]
  dsimp only [toShf]
  refine ok_gd.2 ⟨⟨by omega, by omega⟩, ?_⟩
  rw [r_weigh (by omega) (by omega), Option.bind_some]
  refine ok_gd.2 ⟨⟨by omega, by omega⟩, ?_⟩
  rw [r_weigh (by omega) (by omega), Option.bind_some]
  exact ok_gd.2 ⟨⟨by omega, by omega⟩, nx_gd ⟨by omega, by omega⟩ (by rw [e]; congr 1; omega)⟩
 dsimp only
 rw [if_neg (by rw [List.length_map]; omega)]
 refine up_up (ok_some.2 ?_)
 omega
end Go.S
end

section
set_option linter.unusedVariables false
namespace Go.S
open Go Go.V
noncomputable def uR (t : List UInt8) : StateNowP × Err := (Sh.state_Unmark t).getD (⟨[], [], [], [], 0, [], 0, [], [], [], 0, [], [], 0, [], [], []⟩, .nil)
theorem uR_eq {t : List UInt8} (h : t.length ≤ 100000000) : Sh.state_Unmark t = some (uR t) ∧ ((uR t).2.isNil = true → vNo (uR t).1 ∧ encNo (uR t).1 = t) := by
 obtain ⟨q, hq, hh⟩ := unmark_ok t h
 have e : uR t = q := by unfold uR; rw [hq]; rfl
 rw [e]
 exact ⟨hq, hh⟩
theorem uR_enc {n : StateNowP} (h : gNo n) : uR (encNo n) = (n, .nil) := by unfold uR; rw [unmark_fw h.1 h.2]; rfl
noncomputable def w7 (t : List UInt8) : Nat := 16 + gW (uR t).1
def w8 (t : List UInt8) : Nat := 16 + 16 * t.length
theorem w7_le {t : List UInt8} (h : t.length ≤ 100000000) (g : (uR t).2.isNil = true) : w7 t ≤ w8 t := by
 have h1 := wNo_le (uR t).1
 rw [((uR_eq h).2 g).2] at h1
 unfold w7 w8; omega
theorem sum_mono {α : Type} {f g : α → Nat} : ∀ {l : List α}, (∀ x ∈ l, f x ≤ g x) → (l.map f).sum ≤ (l.map g).sum
  | [], _ => Nat.le_refl _
  | x :: r, h => by
    simp only [List.map_cons, List.sum_cons]
    have := h x (List.mem_cons_self ..)
    have := sum_mono (l := r) fun y hy => h y (List.mem_cons_of_mem _ hy)
    omega
theorem sc_commits {R : Type} {Q : R → Prop} (l : List StateCommitP) (hv : vL vCo l) (c0 : Int) (h0 : 0 ≤ c0) (hc : c0 + ((l.map w6).sum : Nat) ≤ 4000000000000000000) (K : Int → Option R) (hK : Ok (K (c0 + ((l.map w6).sum : Nat))) Q) :
 Ok (iter (fun ((x17_4, c0_5) : Int × Int) =>
 if x17_4 < (l.length : Int) then ((at_ l x17_4).bind (fun z19_6 =>
 lt [z19_6.text] (fun y23_9 =>
 (Sh.state_scale_thing (⟨c0_5⟩ : StateScale) y23_9).bind (fun y24_10 =>
 (Sh.state_scale_row y24_10 z19_6.tree).bind (fun y27_11 =>
 gd (I64 (x17_4 + 1)) (
 go ((x17_4 + 1), y27_11.n)))))))
 else (up (K c0_5))) (0, c0)) Q := by
 have hl := hv.1
 refine sum_loop l w6 c0 _ (fun i z s i0 hi hz hm h1 h2 => ?_) ?_
 ·
  obtain ⟨u1, _, _, _⟩ := hv.2 z hm
  have m1 := u1.1
  have e : w6 z = 16 + z.text.length + (z.tree.map w1).sum := rfl
  have e1 : (([z.text] : List (List UInt8)).map lT).sum = z.text.length := by simp [lT]
  dsimp only
  rw [if_pos hi, gl_atv i0 hz, Option.bind_some]
  refine ok_lt.2 ?_
  rw [sc_thing (by omega) (by simp) (by omega), Option.bind_some, e1, sc_row (by omega) (by omega) (by omega), Option.bind_some]
  exact nx_gd ⟨by omega, by omega⟩ (by dsimp only; rw [e]; congr 1; omega)
 dsimp only
 rw [if_neg (by omega)]
 exact up_up hK
theorem weight_all {s : StateStateP} (hn : vNo (nowOf s)) (hc : vL vCo s.commits) (hb : s.log_back.length ≤ 1000000000) (hf : s.log_forth.length ≤ 1000000000) (ht : ∀ t ∈ s.log_back ++ s.log_forth, t.length ≤ 100000000)
    (hw : gW (nowOf s) + (s.commits.map w6).sum + ((s.log_back ++ s.log_forth).map w8).sum ≤ 4000000000000000000) :
    Ok (Sh.state_Weight s) (fun q => (q.2.isNil = true ↔ ∀ t ∈ s.log_back ++ s.log_forth, (uR t).2.isNil = true) ∧ (q.2.isNil = true → q = (((gW (nowOf s) + (s.commits.map w6).sum + ((s.log_back ++ s.log_forth).map w7).sum : Nat) : Int), .nil))) := by
  unfold Sh.state_Weight
  have h1 : Sh.state_scale_now ⟨0⟩ (nowOf s) = some ⟨0 + (gW (nowOf s) : Nat)⟩ := sc_now (by omega) hn (by omega)
  show Ok ((Sh.state_scale_now ⟨0⟩ (nowOf s)).bind _) _
  rw [h1, Option.bind_some]
  dsimp only
  refine sc_commits s.commits hc (0 + (gW (nowOf s) : Nat)) (by omega) (by omega) (fun c0_5 => lt [s.log_back, s.log_forth] (fun y35_13 =>
 (Sh.slices_Concat_string_string y35_13).bind (fun y36_14 =>
 iter (fun ((x38_15, c0_16) : Int × Int) =>
 if x38_15 < (y36_14.length : Int) then ((at_ y36_14 x38_15).bind (fun z40_17 =>
 (Sh.state_Unmark z40_17).bind (fun y44_18 =>
 if y44_18.2.isNil = true then ((Sh.state_scale_thing (⟨c0_16⟩ : StateScale) []).bind (fun y50_20 =>
 (Sh.state_scale_now y50_20 y44_18.1).bind (fun y52_21 =>
 gd (I64 (x38_15 + 1)) (
 go ((x38_15 + 1), y52_21.n)))))
 else (up (some (0, y44_18.2))))))
 else (up (some (c0_16, Err.nil)))) (0, c0_5)))) ?_
  refine ok_lt.2 ?_
  rw [cat_string_string hb hf, Option.bind_some]
  generalize hT : s.log_back ++ s.log_forth = T at *
  have hTl : T.length ≤ 2000000000 := by rw [← hT, List.length_append]; omega
  generalize hC : gW (nowOf s) + (s.commits.map w6).sum = C at *
  have eC : (0 : Int) + (gW (nowOf s) : Nat) + ((s.commits.map w6).sum : Nat) = (C : Int) := by omega
  rw [eC]
  refine ok_iter (I := fun x => 0 ≤ x.1 ∧ x.1 ≤ T.length ∧ (∀ t ∈ T.take x.1.toNat, (uR t).2.isNil = true) ∧ x.2 = ((C + ((T.take x.1.toNat).map w7).sum : Nat) : Int)) (μ := fun x => (T.length - x.1).toNat) ?_ ⟨by dsimp only; omega, by dsimp only; omega, fun t h => by simp at h, by simp⟩
  rintro ⟨i, c⟩ ⟨i0, i1, i2, i3⟩
  dsimp only at i0 i1 i2 i3 ⊢
  by_cases hi : i < T.length
  · obtain ⟨z, hz⟩ := gl_at i0 hi
    have hzm := List.mem_of_getElem? hz
    have hz1 := ht z hzm
    obtain ⟨hu, hu2⟩ := uR_eq hz1
    rw [if_pos hi, gl_atv i0 hz, Option.bind_some, hu, Option.bind_some]
    refine ok_if.2 ⟨fun hn' => ?_, fun hn' => ok_up.2 (ok_some.2 ⟨⟨fun q => absurd q hn', fun q => absurd (q z hzm) hn'⟩, fun q => absurd q hn'⟩)⟩
    have hs : ((T.take i.toNat).map w7).sum ≤ ((T.take i.toNat).map w8).sum := sum_mono fun x hx => w7_le (ht x (List.mem_of_mem_take hx)) (i2 x hx)
    have h8 := take_sum w8 hz
    have h7 := w7_le hz1 hn'
    have e7 : w7 z = 16 + gW (uR z).1 := rfl
    have el : (([] : List (List UInt8)).map lT).sum = 0 := rfl
    rw [sc_thing (by omega) (by simp) (by rw [el]; omega), Option.bind_some, el, sc_now (by omega) (hu2 hn').1 (by omega), Option.bind_some]
    refine ok_gd.2 ⟨⟨by omega, by omega⟩, ok_go.2 ⟨⟨by dsimp only; omega, by dsimp only; omega, fun t h => ?_, ?_⟩, by dsimp only; omega⟩⟩
    · dsimp only at h
      rw [gl_snoc i0 hz] at h
      rcases List.mem_append.1 h with m | m
      · exact i2 t m
      · rw [List.mem_singleton.1 m]; exact hn'
    · dsimp only
      rw [gl_snoc i0 hz, List.map_append, List.sum_append, i3]
      simp only [List.map_cons, List.map_nil, List.sum_cons, List.sum_nil]
      omega
  · have e : i.toNat = T.length := by omega
    rw [e, List.take_length] at i2 i3
    rw [if_neg hi]
    exact ok_up.2 (ok_some.2 ⟨⟨fun _ => i2, fun _ => rfl⟩, fun _ => by rw [i3]⟩)
def pW (p : Rectolaw25PlainP) : Nat := gW (nowP p) + (p.commits.map w6).sum + ((p.back.map fun n => 16 + gW n).sum + (p.forth.map fun n => 16 + gW n).sum)
structure gPw (p : Rectolaw25PlainP) : Prop where
  g : gPl p
  ss : vSS (toS p)
  sl : (encSS (toS p)).length ≤ 100000000
  w : gW (nowP p) + (p.commits.map w6).sum + (((p.back.map encNo) ++ (p.forth.map encNo)).map w8).sum ≤ 4000000000000000000
theorem sum_bk {α : Type} [Bk α] {f : α → Nat} {k : Nat} {l : List α} (h : ∀ x ∈ l, f x ≤ k * Bk.bk x) : (l.map f).sum ≤ k * (l.map Bk.bk).sum := by
 induction l with
 | nil => simp
 | cons y r ih =>
   simp only [List.map_cons, List.sum_cons]
   have := h y (List.mem_cons_self ..)
   have := ih fun x hx => h x (List.mem_cons_of_mem _ hx)
   rw [Nat.mul_add]; omega
theorem marks_len {l : List StateNowP} (r : ∀ x ∈ l, Rp.rp x) (b : Bk.bk l ≤ 2000000) : vL vTx (l.map encNo) ∧ (encL encT (l.map encNo)).length ≤ 24 * Bk.bk l ∧ ((l.map encNo).map w8).sum ≤ 400 * Bk.bk l := by
 have h0 := bk_len p_no l
 have hx : ∀ x ∈ l, (encNo x).length ≤ 12 * Bk.bk x ∧ Bk.bk x ≤ 2000000 ∧ 1 ≤ Bk.bk x := fun x hx => by
   have := bk_mem hx
   exact ⟨(v_no (r x hx) (by omega)).2, by omega, p_no x⟩
 have h1 := encI_len (n := (((l.map encNo).length : Nat) : Int)) ⟨by omega, by rw [List.length_map]; omega⟩
 have e1 := bk_list l
 have h2 : ((l.map encNo).flatMap encT).length ≤ 23 * (l.map Bk.bk).sum := by
   clear h0 h1 e1 b
   induction l with
   | nil => simp
   | cons y t ih =>
     simp only [List.map_cons, List.flatMap_cons, List.length_append, List.sum_cons]
     have hy := hx y (List.mem_cons_self ..)
     have h3 := ih (fun x h => r x (List.mem_cons_of_mem _ h)) (fun x h => hx x (List.mem_cons_of_mem _ h))
     have h4 := encI_len (n := (((encNo y).length : Nat) : Int)) ⟨by omega, by omega⟩
     rw [encT, List.length_append]
     rw [Nat.mul_add]
     omega
 have h3 : ((l.map encNo).map w8).sum ≤ 400 * (l.map Bk.bk).sum := by
   rw [List.map_map]
   refine sum_bk fun x hm => ?_
   have := hx x hm
   simp only [Function.comp, w8]
   omega
 refine ⟨⟨by rw [List.length_map]; omega, fun x hm => ?_⟩, ?_, by omega⟩
 ·
  obtain ⟨z, hz, rfl⟩ := List.mem_map.1 hm
  have := hx z hz
  unfold vTx; omega
 rw [encL, List.length_append]; omega
theorem gW_bk {n : StateNowP} (r : Rp.rp n) (b : Bk.bk n ≤ 2000000) : gW n ≤ 192 * Bk.bk n := by
 have h1 := wNo_le n
 have h2 := (v_no r b).2
 omega
theorem sum4 {a b c d e n k1 k2 k3 k4 k5 : Nat} (h : n = a + b + c + d + e) (hn : n ≤ 2000000) (h1 : k1 ≤ 12 * a) (h2 : k2 ≤ 12 * b) (h3 : k3 ≤ 24 * c) (h4 : k4 ≤ 24 * d) (h5 : k5 ≤ 12 * e) : k1 + (k2 + (k3 + (k4 + k5))) ≤ 100000000 := by omega
theorem sum5 {a b c d e n k1 k2 k3 k4 : Nat} (h : n = a + b + c + d + e) (hn : n ≤ 2000000) (h1 : k1 ≤ 192 * a) (h2 : k2 + 16 ≤ 16 * (12 * b)) (h3 : k3 ≤ 400 * c) (h4 : k4 ≤ 400 * d) : k1 + k2 + (k3 + k4) ≤ 4000000000000000000 := by omega
theorem g_pw {p : Rectolaw25PlainP} (r : Rp.rp p) (b : Bk.bk p ≤ 2000000) : gPw p := by
 have h := part5 (b_pl p) b
 have hr := rp_rest r
 have hn := v_no (rp_nowP r) h.1
 have gw := gW_bk (rp_nowP r) h.1
 have mb := marks_len hr.2.1 h.2.2.1
 have mf := marks_len hr.2.2.1 h.2.2.2
 have hc : vL vCo p.commits ∧ (encL encCo p.commits).length ≤ 12 * Bk.bk p.commits := ⟨vl h.2.1 p_co fun x hx hb => (v_co (hr.1 x hx) hb).1, ll h.2.1 p_co fun x hx hb => (v_co (hr.1 x hx) hb).2⟩
 have ht := il hr.2.2.2
 have hw := sum_enc w6 encCo w6_le p.commits
 refine ⟨g_pl r b, ⟨hn.1, hc.1, mb.1, mf.1, hr.2.2.2⟩, ?_, ?_⟩
 ·
  have e : (encSS (toS p)).length = (encNo (nowP p)).length + ((encL encCo p.commits).length + ((encL encT (p.back.map encNo)).length + ((encL encT (p.forth.map encNo)).length + (encI p.time).length))) := by
    show (encNo (nowP p) ++ (encL encCo p.commits ++ (encL encT (p.back.map encNo) ++ (encL encT (p.forth.map encNo) ++ encI p.time)))).length = _
    simp only [List.length_append]
  rw [e]
  exact sum4 (b_pl p) b hn.2 hc.2 mb.2.1 mf.2.1 ht
 rw [List.map_append, List.sum_append]
 exact sum5 (b_pl p) b gw (Nat.le_trans hw (Nat.mul_le_mul_left 16 hc.2)) mb.2.2 mf.2.2
theorem w7_map {l : List StateNowP} (h : ∀ x ∈ l, gNo x) : ((l.map encNo).map w7).sum = (l.map fun n => 16 + gW n).sum := by
 rw [List.map_map]
 congr 1
 refine List.map_congr_left fun x hx => ?_
 simp only [Function.comp, w7]
 rw [uR_enc (h x hx)]
theorem weight_ok {p : Rectolaw25PlainP} (h : gPw p) : Sh.state_Weight (toS p) = some (((pW p : Nat) : Int), .nil) := by
 have hg := h.g
 have hbl := hg.bl
 have hfl := hg.fl
 have hm : ∀ t ∈ (toS p).log_back ++ (toS p).log_forth, ∃ n, t = encNo n ∧ gNo n := fun t ht => by
   rcases List.mem_append.1 ht with m | m
   · obtain ⟨z, hz, rfl⟩ := List.mem_map.1 m
     exact ⟨z, rfl, hg.back z hz⟩
   · obtain ⟨z, hz, rfl⟩ := List.mem_map.1 m
     exact ⟨z, rfl, hg.forth z hz⟩
 obtain ⟨q, hq, h1, h2⟩ := weight_all (s := toS p) hg.now.1 hg.co (by simp [toS]; omega) (by simp [toS]; omega) (fun t ht => by obtain ⟨n, rfl, g⟩ := hm t ht; exact g.2) h.w
 have h3 := h2 (h1.2 fun t ht => by obtain ⟨n, rfl, g⟩ := hm t ht; rw [uR_enc g]; rfl)
 rw [hq, h3]
 have e : (((toS p).log_back ++ (toS p).log_forth).map w7).sum = (p.back.map fun n => 16 + gW n).sum + (p.forth.map fun n => 16 + gW n).sum := by
   rw [List.map_append, List.sum_append]
   show ((p.back.map encNo).map w7).sum + ((p.forth.map encNo).map w7).sum = _
   rw [w7_map hg.back, w7_map hg.forth]
 rw [e]
 rfl
theorem pW_le {p : Rectolaw25PlainP} (h : gPw p) : pW p ≤ 4000000000000000000 := by
 have hg := h.g
 have hw := h.w
 have e : ∀ l : List StateNowP, (l.map fun n => 16 + gW n).sum ≤ ((l.map encNo).map w8).sum := fun l => by
   rw [List.map_map]
   refine sum_mono fun x _ => ?_
   have := wNo_le x
   simp only [Function.comp, w8]; omega
 have h1 := e p.back
 have h2 := e p.forth
 rw [List.map_append, List.sum_append] at hw
 unfold pW; omega
theorem r_weight {p : Rectolaw25PlainP} (h : gPw p) : Sh.r25_Weight (toD p) = some ((pW p : Nat) : Int) := by
 have hg := h.g
 have hbl := hg.bl
 have hfl := hg.fl
 have hcl := hg.co.1
 have hp := pW_le h
 have ep : pW p = gW (nowP p) + (p.commits.map w6).sum + ((p.back.map fun n => 16 + gW n).sum + (p.forth.map fun n => 16 + gW n).sum) := rfl
 rw [ep] at hp ⊢
 apply Ok.eq
 unfold Sh.r25_Weight
 have h1 : Sh.r25_weighNow (toNo (nowP p)) = some ((gW (nowP p) : Nat) : Int) := r_wno hg.now.1 (by omega)
 show Ok ((Sh.r25_weighNow (toNo (nowP p))).bind _) _
 rw [h1, Option.bind_some]
 refine sum_loopR p.commits w6 _ _ (fun i z s i0 hi hz hm h1 h2 => ?_) ?_
 ·
  obtain ⟨u1, _, _, _⟩ := hg.co.2 z hm
  have m1 := u1.1
  have e : w6 z = 16 + z.text.length + (z.tree.map w1).sum := rfl
  have hm := gl_map toCo hz
  dsimp only [toD]
  refine ok_if.2 ⟨fun _ => ?_, fun q => absurd (by rw [List.length_map]; exact hi) q⟩
  refine ok_gd.2 ⟨⟨by omega, by omega⟩, ?_⟩
  simp only [gl_atv i0 hm, Option.bind_some]
  dsimp only [toCo]
  refine ok_gd.2 ⟨⟨by omega, by omega⟩, ?_⟩
  rw [r_weigh (by omega) (by omega), Option.bind_some]
  exact ok_gd.2 ⟨⟨by omega, by omega⟩, nx_gd ⟨by omega, by omega⟩ (by rw [e]; congr 1; omega)⟩
 dsimp only [toD]
 refine ok_if.2 ⟨fun q => absurd q (by rw [List.length_map]; omega), fun _ => ?_⟩
 refine up_up ?_
 refine sum_loopR p.back (fun n => 16 + gW n) _ _ (fun i z s i0 hi hz hm h1 h2 => ?_) ?_
 ·
  have hv := (hg.back z hm).1
  have hm := gl_map toNo hz
  dsimp only at h2 ⊢
  refine ok_if.2 ⟨fun _ => ?_, fun q => absurd (by rw [List.length_map]; exact hi) q⟩
  refine ok_gd.2 ⟨⟨by omega, by omega⟩, ?_⟩
  rw [gl_atv i0 hm, Option.bind_some]
  have h3 : Sh.r25_weighNow (toNo z) = some ((gW z : Nat) : Int) := r_wno hv (by omega)
  show Ok ((Sh.r25_weighNow (toNo z)).bind _) _
  rw [h3, Option.bind_some]
  exact ok_gd.2 ⟨⟨by omega, by omega⟩, nx_gd ⟨by omega, by omega⟩ (by congr 1; omega)⟩
 dsimp only
 refine ok_if.2 ⟨fun q => absurd q (by rw [List.length_map]; omega), fun _ => ?_⟩
 refine up_up ?_
 refine sum_loopR p.forth (fun n => 16 + gW n) _ _ (fun i z s i0 hi hz hm h1 h2 => ?_) ?_
 ·
  have hv := (hg.forth z hm).1
  have hm := gl_map toNo hz
  dsimp only at h2 ⊢
  refine ok_if.2 ⟨fun _ => ?_, fun q => absurd (by rw [List.length_map]; exact hi) q⟩
  refine ok_gd.2 ⟨⟨by omega, by omega⟩, ?_⟩
  rw [gl_atv i0 hm, Option.bind_some]
  have h3 : Sh.r25_weighNow (toNo z) = some ((gW z : Nat) : Int) := r_wno hv (by omega)
  show Ok ((Sh.r25_weighNow (toNo z)).bind _) _
  rw [h3, Option.bind_some]
  exact ok_gd.2 ⟨⟨by omega, by omega⟩, nx_gd ⟨by omega, by omega⟩ (by congr 1; omega)⟩
 dsimp only
 refine ok_if.2 ⟨fun q => absurd q (by rw [List.length_map]; omega), fun _ => ?_⟩
 refine up_up (ok_some.2 ?_)
 omega
end Go.S
end

section
set_option linter.unusedVariables false
namespace Go.S
open Go Go.V
theorem clone_in {l : List Int} (h : l.length ≤ 4000000000) : Sh.slices_Clone_int_int l = some l := by
 apply Ok.eq
 unfold Sh.slices_Clone_int_int
 rw [ok_lt, ok_gd]
 refine ⟨by simp; omega, ?_⟩
 rw [ok_lt, ok_some]; rfl
theorem clip_gr (l : List (List Int)) : Sh.slices_Clip_graph_Graph_int l = some l := by
 apply Ok.eq
 unfold Sh.slices_Clip_graph_Graph_int
 rw [ok_gd]
 refine ⟨⟨by omega, by omega⟩, ?_⟩
 rw [ok_lt, ok_some, Int.toNat_natCast, List.take_length]
theorem clone_fi {l : List FilesFile} (h : l.length ≤ 4000000000) : Sh.slices_Clone_files_Row_files_File l = some l := by
 apply Ok.eq
 unfold Sh.slices_Clone_files_Row_files_File
 rw [ok_lt, ok_gd]
 refine ⟨by simp; omega, ?_⟩
 rw [ok_lt, ok_some]; rfl
theorem graph_ok {s : StateStateP} (hc : vL vCo s.commits) : Sh.state_Graph s = some (s.commits.map (·.parents)) := by
 have hl := hc.1
 apply Ok.eq
 unfold Sh.state_Graph
 refine mp_loop s.commits (·.parents) _ (fun i z i0 hi hz o ho => ?_) ?_
 ·
  obtain ⟨_, u2, _, _⟩ := hc.2 z (List.mem_of_getElem? hz)
  have m2 := u2.1
  dsimp only
  rw [if_pos hi, gl_atv i0 hz, Option.bind_some, clone_in (by omega), Option.bind_some, clip_int_int, Option.bind_some]
  exact ok_lt.2 (ok_gd.2 ⟨by simp; omega, ok_lt.2 (nx_gd ⟨by omega, by omega⟩ rfl)⟩)
 dsimp only
 rw [if_neg (by omega), clip_gr, Option.bind_some]
 exact up_up (ok_some.2 rfl)
theorem tree_at {s : StateStateP} (hc : vL vCo s.commits) {i : Int} {z : StateCommitP} (i0 : 0 ≤ i) (hi : i < s.commits.length) (hz : s.commits[i.toNat]? = some z) : Sh.state_Tree s (i + 1) = some z.tree := by
 have hl := hc.1
 obtain ⟨u1, _, _, _⟩ := hc.2 z (List.mem_of_getElem? hz)
 have m1 := u1.1
 apply Ok.eq
 unfold Sh.state_Tree Sh.state_has
 rw [if_pos (by omega), Option.bind_some]
 refine ok_if.2 ⟨fun q => (by simp at q; omega), fun _ => ok_gd.2 ⟨⟨by omega, by omega⟩, ?_⟩⟩
 rw [show i + 1 - 1 = i by omega, gl_atv i0 hz, Option.bind_some, clone_fi (by omega), Option.bind_some, clip_files_Row_files_File, Option.bind_some]
 exact ok_some.2 rfl
theorem tree_no {s : StateStateP} {i : Int} (h : i < 1 ∨ (s.commits.length : Int) < i) : Sh.state_Tree s i = some [] := by
 apply Ok.eq
 unfold Sh.state_Tree Sh.state_has
 by_cases h1 : 1 ≤ i
 ·
  rw [if_pos h1, Option.bind_some]
  refine ok_if.2 ⟨fun _ => ok_some.2 rfl, fun q => ?_⟩
  simp at q
  omega
 rw [if_neg h1, Option.bind_some, if_pos (by simp)]
 exact ok_some.2 rfl
theorem PlEq.refl (p : Rectolaw25PlainP) : PlEq p p := ⟨rfl, rfl, rfl, rfl, rfl⟩
theorem stateBack_ok (p : Rectolaw25PlainP) (r : Rp.rp p) (b : Bk.bk p ≤ 2000000) : Sh.l25_StateBack p = some true := by
 have hw := g_pw r b
 have hg := hw.g
 have hcl := hg.co.1
 apply Ok.eq
 unfold Sh.l25_StateBack
 rw [known25, Option.bind_some, if_neg (by simp)]
 refine tot (few_ok hg) fun x => ok_if.2 ⟨fun _ => ok_some.2 rfl, fun _ => ?_⟩
 obtain ⟨r1, hr1, hh1⟩ := (q_same hg hg).get
 obtain rfl := hh1.2 (PlEq.refl p)
 obtain ⟨r2, hr2, hh2⟩ := (r_same hg hg).get
 obtain rfl := hh2.2 (PlEq.refl p)
 rw [to_ok hg, Option.bind_some, encode_ok hw.ss hw.sl, Option.bind_some, decode_fw hw.ss hw.sl, Option.bind_some, of_state hg, Option.bind_some, weight_ok hw, Option.bind_some]
 refine ok_jnP (fun c => c = false) (fun c hc => ?_) (fun K hK => ?_)
 ·
  subst hc
  rw [if_neg (by simp)]
  dsimp only
  rw [Option.bind_some]
  refine ok_jnP (fun c => c = false) (fun c hc => ?_) (fun K hK => ?_)
  ·
   subst hc
   rw [if_neg (by simp), graph_ok (s := toS p) hg.co, Option.bind_some]
   refine ok_if.2 ⟨fun _ => ?_, fun q => absurd (by rw [List.length_map]; rfl) q⟩
   refine ok_iter (I := fun i => 0 ≤ i ∧ i ≤ p.commits.length) (μ := fun i => (p.commits.length - i).toNat) ?_ ⟨by omega, by omega⟩
   rintro i ⟨i0, i1⟩
   by_cases hi : i < p.commits.length
   ·
    obtain ⟨z, hz⟩ := gl_at i0 hi
    obtain ⟨u1, _, _, _⟩ := hg.co.2 z (List.mem_of_getElem? hz)
    have hm : ((toS p).commits.map (·.parents))[i.toNat]? = some z.parents := gl_map (·.parents) (l := p.commits) hz
    have hm2 : (toD p).commits[i.toNat]? = some (toCo z) := gl_map toCo (l := p.commits) hz
    rw [if_pos (by rw [List.length_map]; exact hi)]
    refine ok_jnP (fun c => c = false) (fun c hc => ?_) (fun K hK => ?_)
    ·
     subst hc
     rw [if_neg (by simp)]
     exact ok_gd.2 ⟨⟨by omega, by omega⟩, ok_go.2 ⟨⟨by omega, by omega⟩, by omega⟩⟩
    obtain ⟨r3, hr3, hh3⟩ := (r_fi (a := z.tree.map toFile) (b := z.tree.map toFile) (by rw [List.length_map]; exact u1.1)).get
    obtain rfl := hh3.2 rfl
    rw [gl_atv i0 hm, Option.bind_some, gl_atv i0 hz, Option.bind_some, if_pos rfl]
    refine ok_gd.2 ⟨⟨by omega, by omega⟩, ?_⟩
    rw [gl_atv i0 hm2, Option.bind_some, tree_at (s := toS p) hg.co i0 hi hz, Option.bind_some, of_fi u1.1, Option.bind_some]
    show Ok ((Sh.r14_Same (z.tree.map toFile) (z.tree.map toFile)).bind _) _
    rw [hr3, Option.bind_some]
    exact hK _ rfl
   have e : i = p.commits.length := by omega
   subst e
   rw [if_neg (by rw [List.length_map]; exact hi)]
   refine ok_up.2 ?_
   rw [tree_no (s := toS p) (.inl (by omega)), Option.bind_some]
   refine ok_if.2 ⟨fun _ => ?_, fun q => absurd rfl q⟩
   refine ok_gd.2 ⟨⟨by rw [List.length_map]; show _ ≤ ((p.commits.length : Nat) : Int) + 1; omega, by rw [List.length_map]; show ((p.commits.length : Nat) : Int) + 1 ≤ _; omega⟩, ?_⟩
   rw [tree_no (s := toS p) (.inr (by rw [List.length_map]; omega)), Option.bind_some]
   exact ok_some.2 rfl
  rw [if_neg (by simp), hr2, Option.bind_some]
  exact hK _ rfl
 dsimp only
 rw [if_pos (show Err.nil.isNil = true from rfl), if_pos (show Err.nil.isNil = true from rfl), if_neg (by simp), hr1, Option.bind_some, if_neg (by simp), r_weight hw, Option.bind_some]
 exact hK _ (by simp)
end Go.S
end
