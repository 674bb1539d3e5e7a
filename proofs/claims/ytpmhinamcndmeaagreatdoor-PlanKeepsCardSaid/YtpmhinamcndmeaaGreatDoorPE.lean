/- Part of the proofs of: The laws on plans hold for every input: what is laid into a folder keeps what was changed, a clean folder takes any tree, and by force the index is the tree. -/
import Derived.Test.YtpmhinamcndmeaaGreatDoorPD
set_option linter.unusedVariables false
set_option linter.unusedSimpArgs false
set_option linter.unusedSectionVars false
section
namespace Go.S
open Go
structure BdE (n : Nat) (l : List IndexEntry) : Prop where
  n : l.length ≤ n
  p : ∀ z ∈ l, z.path.length ≤ 1000000
theorem putP_len (l : List IndexEntry) (e : IndexEntry) : (putP l e).length ≤ l.length + 1 := by
  unfold putP
  have h1 := List.length_filter_le (fun z => !givesS e z) l
  generalize l.filter (fun z => !givesS e z) = y at h1 ⊢
  have h2 := congrArg List.length (List.takeWhile_append_dropWhile (p := fun z => bf z e) (l := y))
  simp only [List.length_append, List.length_cons, List.length_nil] at h2 ⊢
  omega
theorem putP_mem {l : List IndexEntry} {e z : IndexEntry} (h : z ∈ putP l e) : z = e ∨ z ∈ l := by
  unfold putP at h
  rw [List.mem_append, List.mem_append, List.mem_singleton] at h
  rcases h with (q | q) | q
  · exact .inr (List.mem_filter.1 ((List.takeWhile_sublist _).subset q)).1
  · exact .inl q
  · exact .inr (List.mem_filter.1 ((List.dropWhile_sublist _).subset q)).1
theorem BdE.put {n : Nat} {l : List IndexEntry} (h : BdE n l) {e : IndexEntry} (he : e.path.length ≤ 1000000) : BdE (n + 1) (putP l e) := ⟨by
  have := putP_len l e
  have := h.n
  omega, fun z hz => by
  rcases putP_mem hz with q | q
  · rw [q]; exact he
  · exact h.p z q⟩
def layE (p : List UInt8) (ix : List IndexEntry) (e : IndexEntry) : List IndexEntry := if e.path = p then putP ix e else ix
def layP (r : TmergeResultP) (ix : List IndexEntry) (p : List UInt8) : List IndexEntry :=
  if p ∈ r.conflicts then r.entries.foldl (layE p) ix else match gt r.files p with
  | none => ix
  | some f => putP ix ⟨p, 0, f.mode, f.data, 0, 0⟩
theorem BdE.mono {n m : Nat} {l : List IndexEntry} (h : BdE n l) (hm : n ≤ m) : BdE m l := ⟨Nat.le_trans h.n hm, h.p⟩
theorem BdE.layE {n : Nat} {l : List IndexEntry} (h : BdE n l) {p : List UInt8} {e : IndexEntry} (he : e.path.length ≤ 1000000) : BdE (n + 1) (layE p l e) := by
  unfold Go.S.layE
  split
  · exact h.put he
  · exact h.mono (by omega)
theorem BdE.lays (p : List UInt8) : ∀ (es : List IndexEntry) (n : Nat) (l : List IndexEntry), BdE n l → (∀ e ∈ es, e.path.length ≤ 1000000) → BdE (n + es.length) (es.foldl (Go.S.layE p) l)
  | [], _, _, h, _ => h
  | e :: r, n, l, h, he => by
    have := BdE.lays p r (n + 1) _ (h.layE (p := p) (he e (List.mem_cons_self ..))) fun z hz => he z (List.mem_cons_of_mem _ hz)
    rw [List.foldl_cons, List.length_cons]
    exact this.mono (by omega)
theorem BdE.layP {n : Nat} {l : List IndexEntry} {r : TmergeResultP} (h : BdE n l) (he : ∀ e ∈ r.entries, e.path.length ≤ 1000000) {p : List UInt8} (hp : p.length ≤ 1000000) : BdE (n + (r.entries.length + 1)) (layP r l p) := by
  unfold Go.S.layP
  split
  · exact (BdE.lays p r.entries n l h he).mono (by omega)
  · split
    · exact h.mono (by omega)
    · exact (h.put (e := ⟨p, 0, _, _, 0, 0⟩) hp).mono (by omega)
theorem BdE.layPs {r : TmergeResultP} (he : ∀ e ∈ r.entries, e.path.length ≤ 1000000) : ∀ (ps : List (List UInt8)) (n : Nat) (l : List IndexEntry), BdE n l → (∀ p ∈ ps, p.length ≤ 1000000) → BdE (n + ps.length * (r.entries.length + 1)) (ps.foldl (Go.S.layP r) l)
  | [], n, _, h, _ => by simpa using h
  | p :: t, n, l, h, hp => by
    have := BdE.layPs he t _ _ (h.layP he (hp p (List.mem_cons_self ..))) fun z hz => hp z (List.mem_cons_of_mem _ hz)
    rw [List.foldl_cons, List.length_cons]
    refine this.mono ?_
    rw [Nat.add_mul, Nat.one_mul]
    omega
theorem lay20 {r : TmergeResultP} (hf : Bd r.files) (hc : r.conflicts.length ≤ 1000000) (hel : r.entries.length ≤ 90000) (he : ∀ e ∈ r.entries, e.path.length ≤ 1000000) {ix : List IndexEntry} (hi : BdE 900000 ix) {p : List UInt8} (hp : p.length ≤ 1000000) : Sh.plan_lay r ix p = some (layP r ix p) := by
  apply Ok.eq
  unfold Sh.plan_lay layP
  rw [cont20 _ _ (by omega), Option.bind_some]
  by_cases m : p ∈ r.conflicts
  · rw [if_pos (decide_eq_true m), if_pos m]
    refine gl_fold r.entries (layE p) ix _ ?_ ?_
    · intro i z i0 hi' hz s hs
      have hb : BdE 990000 s := by
        rw [hs]
        refine (BdE.lays p (r.entries.take i.toNat) _ _ hi fun e q => he e (List.mem_of_mem_take q)).mono ?_
        rw [List.length_take]; omega
      have hbn := hb.n
      dsimp only
      rw [if_pos hi', gl_atv i0 hz, Option.bind_some]
      unfold layE
      by_cases q : z.path = p
      · rw [if_pos q, if_pos q, put15 s z (by omega) (fun y hy => by have := hb.p y hy; omega) (by have := he z (List.mem_of_getElem? hz); omega), Option.bind_some]
        exact nx_gd ⟨by omega, by omega⟩ rfl
      · rw [if_neg q, if_neg q]
        exact nx_gd ⟨by omega, by omega⟩ rfl
    · intro s hs
      dsimp only
      rw [if_neg (by omega)]
      exact up_up (ok_some.2 hs)
  · rw [if_neg (by simp [m]), if_neg m, of20 hf.r hf.n, Option.bind_some]
    have hin := hi.n
    cases hg : gt r.files p with
    | none => rw [one_none hg, if_pos (by rfl), ok_some]
    | some f =>
      rw [one_some hg, if_neg (by simp), put15 ix ⟨p, 0, f.mode, f.data, 0, 0⟩ (by omega) (fun y hy => by have := hi.p y hy; omega) (by show p.length ≤ _; omega), Option.bind_some, ok_some]
def applyP (all : List (List UInt8)) (h : List FilesFile) (r : TmergeResultP) (ix : List IndexEntry) (w : List FilesFile) : List IndexEntry × List FilesFile × Err :=
  if 0 < (lostP all h r ix w).length then (ix, w, Err.fault [112, 97, 116, 104] (lostP all h r ix w).length (Err.no 8))
  else (all.foldl (layP r) (dropsE all ix), putsF r.files all (cutsF all w), Err.nil)
theorem drops_eq : ∀ (ps : List (List UInt8)) (x : List IndexEntry), dropsE ps x = x.filter fun z => !decide (z.path ∈ ps)
  | [], x => by simp [dropsE, List.filter_eq_self.2]
  | p :: r, x => by
    show dropsE r _ = _
    rw [drops_eq r, List.filter_filter]
    congr 1
    funext z
    by_cases a : z.path = p <;> by_cases b : z.path ∈ r <;> simp [a, b]
theorem drops_len (ps : List (List UInt8)) (x : List IndexEntry) : (dropsE ps x).length ≤ x.length := by
  rw [drops_eq]; exact List.length_filter_le _ _
theorem drops_mem {ps : List (List UInt8)} {x : List IndexEntry} {z : IndexEntry} (h : z ∈ dropsE ps x) : z ∈ x := by
  rw [drops_eq] at h; exact (List.mem_filter.1 h).1
theorem apply20 {h w : List FilesFile} {r : TmergeResultP} {ix : List IndexEntry} (hh : Bd h) (hf : Bd r.files) (hw : Bd w) (hi : GoodI ix) (hib : BdE 100000 ix) (hc : r.conflicts.length ≤ 1000000) (hcp : ∀ p ∈ r.conflicts, p.length ≤ 1000000) (hel : r.entries.length ≤ 90000) (he : ∀ e ∈ r.entries, e.path.length ≤ 1000000)
    (hn : (touchedP h r).length * (r.entries.length + 1) ≤ 800000) : Sh.plan_Apply h r ix w = some (applyP (touchedP h r) h r ix w) := by
  apply Ok.eq
  have hin := hib.n
  have hwn := hw.n
  unfold Sh.plan_Apply applyP
  rw [lost20 hh hf hw hi (by omega) hc hcp, Option.bind_some]
  generalize lostP (touchedP h r) h r ix w = l
  by_cases q : 0 < l.length
  · rw [if_pos (by omega), if_pos q, clone15 (by omega), Option.bind_some, clip15, Option.bind_some, clone14 (by omega), Option.bind_some, clip14, Option.bind_some, ok_some]
  · rw [if_neg (by omega), if_neg q, touched20 hh hf hc, Option.bind_some, clone15 (by omega), Option.bind_some, clone14 (by omega), Option.bind_some]
    have hap := touched_path hh hf hcp
    have hal : (touchedP h r).length ≤ 3000000 := by
      have := touched_len h r
      have h1 := hh.n
      have h2 := hf.n
      omega
    generalize touchedP h r = all at hap hal hn ⊢
    refine gl_fold2 all (fun l p => l.filter fun z => !decide (z.path = p)) (fun x p => x.filter fun z => !decide (z.path = p)) ix w _ ?_ ?_
    · intro i z i0 hi' hz s t hs ht
      have hsl : s.length ≤ 100000 := by
        rw [hs]; exact Nat.le_trans (drops_len _ ix) hin
      have htl : t.length ≤ 1000000 := by
        rw [ht]; exact Nat.le_trans (cuts_len _ w) hwn
      dsimp only
      rw [if_pos hi', gl_atv i0 hz, Option.bind_some, drop15 s z (by omega), Option.bind_some, cut14 z (by omega), Option.bind_some]
      exact nx_gd ⟨by omega, by omega⟩ rfl
    · intro s t hs ht
      have hs : s = dropsE all ix := hs
      have ht : t = cutsF all w := ht
      dsimp only
      rw [if_neg (by omega)]
      refine up_up ?_
      have hsb : BdE 100000 s := ⟨by rw [hs]; exact Nat.le_trans (drops_len _ ix) hin, fun z hz => hib.p z (by rw [hs] at hz; exact drops_mem hz)⟩
      have htR : R t := by rw [ht]; exact cuts_R hw.r all
      have htl : t.length ≤ 1000000 := by rw [ht]; exact Nat.le_trans (cuts_len _ w) hwn
      refine gl_fold2 all (layP r) (fun x p => putO x (gt r.files p)) s t _ ?_ ?_
      · intro i z i0 hi' hz u v hu hv
        have hzp := hap z (List.mem_of_getElem? hz)
        have hub : BdE 900000 u := by
          rw [hu]
          refine (BdE.layPs he (all.take i.toNat) _ _ hsb fun p hp => hap p (List.mem_of_mem_take hp)).mono ?_
          have h1 : (all.take i.toNat).length ≤ all.length := by rw [List.length_take]; omega
          have h2 := Nat.mul_le_mul_right (r.entries.length + 1) h1
          omega
        have hvR : R v := by rw [hv]; exact puts_R _ _ htR
        have hvl : v.length ≤ 5000000 := by
          have := puts_len (rf := r.files) (all.take i.toNat) t
          have h1 : (all.take i.toNat).length ≤ all.length := by rw [List.length_take]; omega
          rw [hv]
          refine Nat.le_trans this ?_
          omega
        dsimp only
        rw [if_pos hi', gl_atv i0 hz, Option.bind_some, lay20 hf hc hel he hub hzp, Option.bind_some, of20 hf.r hf.n, Option.bind_some]
        cases hg : gt r.files z with
        | none =>
          rw [one_none hg, if_neg (by simp)]
          exact nx_gd ⟨by omega, by omega⟩ rfl
        | some f =>
          rw [one_some hg, if_pos (by rfl), put14 hvR (by omega), Option.bind_some]
          exact nx_gd ⟨by omega, by omega⟩ rfl
      · intro u v hu hv
        dsimp only
        rw [if_neg (by omega)]
        refine up_up ?_
        rw [clip15, Option.bind_some, clip14, Option.bind_some, ok_some, hu, hv, hs, ht]; rfl
theorem iof20 (l : List FilesFile) (hb : l.length ≤ 1000000) : Sh.index_Of l = some (l.map entE) := by
  apply Ok.eq
  unfold Sh.index_Of
  refine gl_app l (fun _ => true) entE [] _ ?_ ?_
  · intro i z i0 hi hz s hs
    simp only [List.length_nil] at hs
    dsimp only
    rw [if_pos hi, gl_atv i0 hz, Option.bind_some]
    simp only [ok_lt, ok_gd]
    exact ⟨by simp only [List.length_cons, List.length_nil]; omega, ⟨by omega, by omega⟩, nx_go rfl⟩
  · intro s hs
    dsimp only
    rw [if_neg (by omega)]
    refine up_up ?_
    rw [clip15, Option.bind_some, ok_some, hs, List.filter_eq_self.2 (fun _ _ => rfl)]; rfl
theorem known20 (ix : List IndexEntry) (p : List UInt8) (hb : ix.length ≤ 1000000) : Sh.plan_known ix p = some (ix.any fun e => decide (e.path = p)) := by
  apply Ok.eq
  unfold Sh.plan_known Sh.slices_ContainsFunc_index_Entry_index_Entry
  rw [ok_bd, ok_bd]
  refine (ixloop (fun e => decide (e.path = p)) ix (by omega) (fun z => Sh.plan_known_1 z p) (fun z hz => rfl) _ fun i => rfl).mono ?_
  intro x hx
  rw [ok_some, ok_some, fst_any hx]
def outF (h : List FilesFile) (ix : List IndexEntry) (z : FilesFile) : Bool := decide (gt h z.path = none) && !ix.any fun e => decide (e.path = z.path)
theorem force20 {h to w : List FilesFile} {ix : List IndexEntry} (hh : Bd h) (ht : Bd to) (hw : Bd w) (hib : ix.length ≤ 1000000) : Sh.plan_Force h to ix w = some (to.map entE, forceF to (w.filter (outF h ix))) := by
  apply Ok.eq
  unfold Sh.plan_Force
  have hwn := hw.n
  have htn := ht.n
  refine gl_app w (outF h ix) (fun z => z) [] _ ?_ ?_
  · intro i z i0 hi hz s hs
    simp only [List.length_nil] at hs
    dsimp only
    rw [if_pos hi, gl_atv i0 hz, Option.bind_some]
    refine ok_jnP (fun b => b = outF h ix z) ?_ ?_
    · rintro b rfl
      cases outF h ix z with
      | true =>
        rw [if_pos (by rfl)]
        simp only [ok_lt, ok_gd]
        exact ⟨by simp only [List.length_cons, List.length_nil]; omega, ⟨by omega, by omega⟩, nx_go rfl⟩
      | false =>
        rw [if_neg (by simp)]
        exact nx_gd ⟨by omega, by omega⟩ rfl
    · intro K hK
      rw [of20 hh.r hh.n, Option.bind_some]
      unfold outF at hK
      cases hg : gt h z.path with
      | none =>
        rw [one_none hg, if_pos (by rfl), known20 _ _ hib, Option.bind_some]
        exact hK _ (by rw [hg]; rfl)
      | some f =>
        rw [one_some hg, if_neg (by simp)]
        exact hK _ (by rw [hg]; rfl)
  · intro s hs
    rw [List.nil_append, List.map_id'] at hs
    dsimp only
    rw [if_neg (by omega)]
    refine up_up ?_
    have hsR : R s := by rw [hs]; exact hw.r.sub List.filter_sublist
    have hsl : s.length ≤ 1000000 := by rw [hs]; exact Nat.le_trans (List.length_filter_le _ _) hwn
    have hsp : ∀ z ∈ s, z.path.length ≤ 1000000 := fun z hz => hw.p z (by rw [hs] at hz; exact (List.mem_filter.1 hz).1)
    refine gl_fold to stepF s _ ?_ ?_
    · intro i z i0 hi hz u hu
      have hu : u = forceF (to.take i.toNat) s := hu
      have huR : R u := by rw [hu]; exact force_R _ _ hsR
      have hul : u.length ≤ 3000000 := by
        rw [hu]
        refine Nat.le_trans (force_len _ _) ?_
        rw [List.length_take]; omega
      have hzp := ht.p z (List.mem_of_getElem? hz)
      have hup : ∀ y ∈ u, y.path.length ≤ 1000000 := fun y hy => by
        rw [hu] at hy
        rcases force_mem _ _ _ hy with q | q
        · exact ht.p y (List.mem_of_mem_take q)
        · exact hsp y q
      dsimp only
      rw [if_pos hi, gl_atv i0 hz, Option.bind_some, clear14 z.path (by omega) (fun y hy => by have := hup y hy; omega) (by omega), Option.bind_some, put14 (huR.sub List.filter_sublist) (by have := List.length_filter_le (fun y : FilesFile => !clashS y.path z.path) u; omega), Option.bind_some]
      exact nx_gd ⟨by omega, by omega⟩ rfl
    · intro u hu
      dsimp only
      rw [if_neg (by omega)]
      refine up_up ?_
      rw [iof20 to htn, Option.bind_some, clip14, Option.bind_some, ok_some, hu, hs]; rfl
end Go.S
end

section
namespace Go.S
open Go
theorem knownL20 : Sh.rectolaw20_known = some true := by decide +kernel
theorem few15p (l : List IndexEntry) : Ok (Sh.rectolaw15_Few l) fun b => b = true → l.length ≤ 80 ∧ ∀ f ∈ l, f.path.length ≤ 100 := by
  unfold Sh.rectolaw15_Few
  simp only [ok_if, ok_some]
  refine ⟨fun _ h => (by cases h), fun hl => ?_⟩
  refine ok_iter (I := fun i => 0 ≤ i ∧ i ≤ l.length ∧ ∀ f ∈ l.take i.toNat, f.path.length ≤ 100) (μ := fun i => (l.length - i).toNat) ?_ ⟨by omega, by omega, by simp⟩
  rintro i ⟨i0, i1, i2⟩
  simp only [ok_if, ok_up, ok_some]
  refine ⟨fun hi => ?_, fun hi _ => ⟨by omega, by rw [List.take_of_length_le (by omega)] at i2; exact i2⟩⟩
  obtain ⟨z, hz⟩ := at_get (l := l) i0 hi
  refine ok_jnP (fun b => b = false → z.path.length ≤ 100) ?_ ?_
  · intro b hb
    simp only [ok_if, ok_up, ok_gd, ok_go, ok_some]
    refine ⟨fun _ h => (by cases h), fun h => ⟨⟨by omega, by omega⟩, ⟨by omega, by omega, fun f hf => ?_⟩, by omega⟩⟩
    rw [take_snoc i0 hz] at hf
    rcases List.mem_append.1 hf with q | q
    · exact i2 f q
    · rw [List.mem_singleton.1 q]; exact hb (by simpa using h)
  · intro K hK
    simp only [ok_bd, ok_at, ok_if]
    exact ⟨i0, z, hz, fun _ => hK _ fun h => (by cases h), fun h => ⟨i0, z, hz, hK _ fun _ => by omega⟩⟩
structure FewP (h : List FilesFile) (r : TmergeResultP) (ix : List IndexEntry) (w : List FilesFile) : Prop where
  h : h.length ≤ 64 ∧ GoodF h
  f : r.files.length ≤ 64 ∧ GoodF r.files
  w : w.length ≤ 64 ∧ GoodF w
  i : ix.length ≤ 80 ∧ GoodI ix
  e : r.entries.length ≤ 80 ∧ GoodI r.entries
  c : r.conflicts.length ≤ 40 ∧ confS r.entries = r.conflicts
theorem fw {c P : Prop} [Decidable c] {o : Option Bool} (h : c → Ok o fun b => b = true → P) : Ok (if c then o else some false) (fun b => b = true → P) := by
  split
  · exact h ‹_›
  · exact ok_some.2 fun q => by cases q
theorem few20 (h : List FilesFile) (r : TmergeResultP) (ix : List IndexEntry) (w : List FilesFile) : Ok (Sh.rectolaw20_Few h r ix w) fun b => b = true → FewP h r ix w := by
  unfold Sh.rectolaw20_Few
  refine ok_bd.2 ((few14 h).mono fun b1 h1 => fw fun q1 => ?_)
  refine ok_bd.2 ((few14 r.files).mono fun b2 h2 => fw fun q2 => ?_)
  refine ok_bd.2 ((few15p r.entries).mono fun b3 h3 => fw fun q3 => ?_)
  refine fw fun q4 => ?_
  refine ok_bd.2 ((few15p ix).mono fun b5 h5 => fw fun q5 => ?_)
  refine ok_bd.2 ((few14 w).mono fun b6 h6 => fw fun q6 => ?_)
  obtain ⟨a1, a2⟩ := h1 q1
  obtain ⟨b1, b2⟩ := h2 q2
  obtain ⟨c1, c2⟩ := h3 q3
  obtain ⟨d1, d2⟩ := h5 q5
  obtain ⟨e1, e2⟩ := h6 q6
  refine ok_bd.2 ((check14 (x := h) (by omega) fun z hz => by have := a2 z hz; omega).mono fun b7 h7 => fw fun q7 => ?_)
  refine ok_bd.2 ((check14 (x := r.files) (by omega) fun z hz => by have := b2 z hz; omega).mono fun b8 h8 => fw fun q8 => ?_)
  refine ok_bd.2 ((checkC15 (x := ix) (by omega) fun z hz => by have := d2 z hz; omega).mono fun b9 h9 => fw fun q9 => ?_)
  refine ok_bd.2 ((check14 (x := w) (by omega) fun z hz => by have := e2 z hz; omega).mono fun b10 h10 => fw fun q10 => ?_)
  refine ok_bd.2 ((checkC15 (x := r.entries) (by omega) fun z hz => by have := c2 z hz; omega).mono fun b11 h11 => fw fun q11 => ?_)
  have hcl := confS_len r.entries
  rw [conf20 _ (by omega), Option.bind_some, texts14 _ _ (by omega), Option.bind_some, ok_some]
  exact fun q => ⟨h7.1 q7, h8.1 q8, h10.1 q10, ⟨d1, (h9 q9).2⟩, ⟨c1, (h11 q11).2⟩, ⟨by omega, of_decide_eq_true q⟩⟩
theorem GoodF.bd {x : List FilesFile} (h : x.length ≤ 64 ∧ GoodF x) : Bd x := ⟨h.2.r, by omega, fun f hf => by have := checkP_len (h.2.v f hf).1; omega⟩
theorem GoodI.bd {x : List IndexEntry} (h : x.length ≤ 80 ∧ GoodI x) : BdE 100000 x := ⟨by omega, fun f hf => by have := checkP_len (h.2.v f hf).1; omega⟩
theorem conf_mem {l : List IndexEntry} {p : List UInt8} : p ∈ confS l ↔ ∃ e ∈ l, e.stage ≠ 0 ∧ e.path = p := by
  unfold confS
  rw [keysS_mem, List.mem_map]
  constructor
  · rintro ⟨e, he, q⟩
    exact ⟨e, (List.mem_filter.1 he).1, by simpa using (List.mem_filter.1 he).2, q⟩
  · rintro ⟨e, he, h0, q⟩
    exact ⟨e, List.mem_filter.2 ⟨he, by simpa using h0⟩, q⟩
theorem FewP.cp {h : List FilesFile} {r : TmergeResultP} {ix : List IndexEntry} {w : List FilesFile} (F : FewP h r ix w) : ∀ p ∈ r.conflicts, p.length ≤ 1000000 := fun p hp => by
  rw [← F.c.2] at hp
  obtain ⟨e, he, _, q⟩ := conf_mem.1 hp
  rw [← q]
  exact (GoodI.bd F.e).p e he
theorem FewP.apply {h : List FilesFile} {r : TmergeResultP} {ix : List IndexEntry} {w : List FilesFile} (F : FewP h r ix w) : Sh.plan_Apply h r ix w = some (applyP (touchedP h r) h r ix w) := by
  have hc := F.c.1
  have he := F.e.1
  refine apply20 (GoodF.bd F.h) (GoodF.bd F.f) (GoodF.bd F.w) F.i.2 (GoodI.bd F.i) (by omega) F.cp (by omega) (GoodI.bd F.e).p ?_
  have h1 := touched_len h r
  have h2 := F.h.1
  have h3 := F.f.1
  have h4 := Nat.mul_le_mul (show (touchedP h r).length ≤ 200 by omega) (show r.entries.length + 1 ≤ 100 by omega)
  omega
theorem keys_nil {l : List (List UInt8)} (h : ¬ 0 < (keysS l).length) : ∀ y, y ∉ l := fun y hy => by
  have := (keysS_mem l y).2 hy
  have := List.length_pos_of_mem this
  omega
theorem lost_nil {all : List (List UInt8)} {h : List FilesFile} {r : TmergeResultP} {ix : List IndexEntry} {w : List FilesFile} (hl : ¬ 0 < (lostP all h r ix w).length) : (∀ p ∈ all, safeP h ix w p = true) ∧ ∀ z ∈ w, lostW r all z = false := by
  have hn := keys_nil hl
  refine ⟨fun p hp => ?_, fun z hz => ?_⟩
  · cases q : safeP h ix w p with
    | true => rfl
    | false => exact absurd (List.mem_append.2 (.inl (List.mem_filter.2 ⟨hp, by simp [q]⟩))) (hn p)
  · cases q : lostW r all z with
    | false => rfl
    | true => exact absurd (List.mem_append.2 (.inr (List.mem_map.2 ⟨z, List.mem_filter.2 ⟨hz, q⟩, rfl⟩))) (hn z.path)
theorem nil_lost {all : List (List UInt8)} {h : List FilesFile} {r : TmergeResultP} {ix : List IndexEntry} {w : List FilesFile} (h1 : ∀ p ∈ all, safeP h ix w p = true) (h2 : ∀ z ∈ w, lostW r all z = false) : lostP all h r ix w = [] := by
  unfold lostP
  rw [List.filter_eq_nil_iff.2 fun p hp => by simp [h1 p hp], List.filter_eq_nil_iff.2 fun p hp => by simp [h2 p hp]]
  rfl
theorem rstage20 (l : List IndexEntry) (n : Int) (hb : l.length ≤ 1000000) : Sh.rectoref14_Stage (l.map toE) n = some ((stF n l).map toF) := by
  apply Ok.eq
  unfold Sh.rectoref14_Stage
  have e : (stF n l).map toF = (l.filter fun z => decide (z.stage = n)).map fun z => toF ⟨z.path, z.mode, z.data⟩ := by
    unfold stF; rw [List.map_map]; rfl
  rw [e]
  have hlen : (l.map toE).length = l.length := List.length_map ..
  simp only [hlen]
  refine gl_app l (fun z => decide (z.stage = n)) (fun z => toF ⟨z.path, z.mode, z.data⟩) [] _ ?_ ?_
  · intro i z i0 hi hz s hs
    simp only [List.length_nil] at hs
    dsimp only
    rw [if_pos hi]
    refine ok_jnP (fun o => o = if decide (z.stage = n) = true then s ++ [toF ⟨z.path, z.mode, z.data⟩] else s) ?_ ?_
    · rintro o rfl
      exact nx_gd ⟨by omega, by omega⟩ rfl
    · intro K hK
      rw [gl_atv i0 (gl_map toE hz), Option.bind_some]
      by_cases q : z.stage = n
      · rw [if_pos (show (toE z).stage = n from q), Option.bind_some, Option.bind_some, Option.bind_some]
        simp only [ok_lt, ok_gd]
        exact ⟨by simp only [List.length_cons, List.length_nil]; omega, hK _ (by rw [if_pos (decide_eq_true q)]; rfl)⟩
      · rw [if_neg (show ¬ (toE z).stage = n from q)]
        exact hK _ (by rw [if_neg (by simp [q])])
  · intro s hs
    dsimp only
    rw [if_neg (by omega)]
    exact up_up (ok_some.2 hs)
theorem like20 (a b : List FilesFile) (la : a.length ≤ 1000000000) (lb : b.length ≤ 1000000000) (p : List UInt8) : Sh.rectoref14_Like (a.map toF) (b.map toF) p = some (decide (gt a p = gt b p)) := by
  unfold Sh.rectoref14_Like
  rw [getr14 a la, getr14 b lb, Option.bind_some, Option.bind_some]
  cases ha : gt a p with
  | none =>
    rw [getF_none ha]
    cases hb : gt b p with
    | none => rw [getF_none hb]; simp
    | some g => rw [getF_some hb]; simp
  | some f =>
    rw [getF_some ha]
    cases hb : gt b p with
    | none => rw [getF_none hb]; simp
    | some g =>
      rw [getF_some hb]
      by_cases h : f = g
      · subst h; simp
      · have : ¬ (f.path = g.path ∧ f.mode = g.mode ∧ f.data = g.data) := fun q => h (by cases f; cases g; simpa using q)
        simp [toF, this, h]
theorem planKeeps_ok (h : List FilesFile) (r : TmergeResultP) (ix : List IndexEntry) (w : List FilesFile) : Sh.rectolaw20_PlanKeeps h r ix w = some true := by
  apply Ok.eq
  unfold Sh.rectolaw20_PlanKeeps
  rw [knownL20, Option.bind_some, if_neg (by simp)]
  refine ok_bd.2 ((few20 h r ix w).mono fun b hb => ?_)
  cases b with
  | false => rw [if_pos (by rfl), ok_some]
  | true =>
    have F := hb rfl
    rw [if_neg (by simp), F.apply, Option.bind_some]
    have hW := GoodF.bd F.w
    have hwl := F.w.1
    have hil := F.i.1
    unfold applyP
    by_cases hl : 0 < (lostP (touchedP h r) h r ix w).length
    · rw [if_pos hl]
      dsimp only
      rw [if_neg (by simp [Err.isNil]), same14 _ _ (by omega), Option.bind_some, ok_some]
      exact decide_eq_true rfl
    · rw [if_neg hl]
      dsimp only
      rw [if_pos (by rfl), of15 (by omega), Option.bind_some, rstage20 _ _ (by omega), Option.bind_some]
      obtain ⟨hsafe, _⟩ := lost_nil hl
      have huR : R (putsF r.files (touchedP h r) (cutsF (touchedP h r) w)) := puts_R _ _ (cuts_R hW.r _)
      have hul : (putsF r.files (touchedP h r) (cutsF (touchedP h r) w)).length ≤ 100000 := by
        have h1 := puts_len (rf := r.files) (touchedP h r) (cutsF (touchedP h r) w)
        have h2 := cuts_len (touchedP h r) w
        have h3 := touched_len h r
        have h4 := F.h.1
        have h5 := F.f.1
        have h6 := F.c.1
        omega
      have hsl := stF_len 0 ix
      refine gl_chk w (fun _ => True) _ ?_ ?_
      · intro i z i0 hi hz _
        have hzm := List.mem_of_getElem? hz
        try dsimp only
        rw [if_pos hi]
        refine ok_jnP (fun _ => True) ?_ ?_
        · intro _ _
          exact ok_gd.2 ⟨⟨by omega, by omega⟩, ⟨_, rfl, .inl ⟨rfl, trivial⟩⟩⟩
        · intro K hK
          rw [gl_atv i0 hz, Option.bind_some, of14 w (by omega), Option.bind_some, like20 _ _ (by omega) (by omega), Option.bind_some]
          by_cases q : gt (stF 0 ix) z.path = gt w z.path
          · rw [if_pos (decide_eq_true q)]; exact hK () trivial
          · have hg : gt w z.path = some z := (gt_some hW.r).2 ⟨hzm, rfl⟩
            have hn : z.path ∉ touchedP h r := fun m => by
              have := hsafe _ m
              unfold safeP at this
              simp only [Bool.and_eq_true, decide_eq_true_eq] at this
              exact q this.1.1.symm
            have hu : getF (putsF r.files (touchedP h r) (cutsF (touchedP h r) w)) z.path = (z, true) := getF_some (by rw [gt_laid hW.r, if_neg hn, hg])
            rw [if_neg (by simp [q]), Option.bind_some, get14 huR (by omega), Option.bind_some, hu]
            refine ok_jnP (fun b => b = false) ?_ ?_
            · rintro b rfl
              rw [if_neg (by simp)]; exact hK () trivial
            · intro K2 hK2
              rw [if_neg (by simp)]
              exact hK2 _ (by simp)
      · intro _
        try dsimp only
        rw [if_neg (by omega)]
        exact up_up (ok_some.2 rfl)
end Go.S
end

section
namespace Go.S
open Go
theorem good_clash {x : List FilesFile} (h : GoodF x) {a b : FilesFile} (ha : a ∈ x) (hb : b ∈ x) : clashS a.path b.path = false := by
  obtain ⟨i, hi⟩ := List.getElem?_of_mem ha
  obtain ⟨j, hj⟩ := List.getElem?_of_mem hb
  obtain ⟨hi1, hi2⟩ := List.getElem?_eq_some_iff.1 hi
  obtain ⟨hj1, hj2⟩ := List.getElem?_eq_some_iff.1 hj
  rcases Nat.lt_trichotomy i j with q | q | q
  · have := List.pairwise_iff_getElem.1 h.c i j hi1 hj1 q
    rwa [hi2, hj2] at this
  · subst q
    rw [← hi2, ← hj2]; exact clash_self _
  · have := List.pairwise_iff_getElem.1 h.c j i hj1 hi1 q
    rw [hi2, hj2] at this
    rw [clash_comm]; exact this
theorem ent_good {a : List FilesFile} (h : GoodF a) : GoodI (a.map entE) := by
  refine ⟨fun e he => ?_, ?_⟩
  · obtain ⟨f, hf, rfl⟩ := List.mem_map.1 he
    obtain ⟨h1, h2, h3⟩ := h.v f hf
    exact ⟨h1, by show (0 : Int) ≤ 0; omega, by show (0 : Int) ≤ 3; omega, h2, h3, by show (0 : Int) ≤ 0; omega, by show (0 : Int) ≤ 0; omega⟩
  · rw [List.pairwise_map]
    refine List.Pairwise.imp_of_mem ?_ h.r
    intro x y hx hy hxy
    exact ⟨.inl hxy, fun q => List.lt_irrefl _ (show y.path < y.path from (show x.path = y.path from q.1) ▸ hxy), good_clash h hx hy⟩
theorem stF_ent (a : List FilesFile) : stF 0 (a.map entE) = a := by
  unfold stF
  rw [List.filter_eq_self.2 (fun e he => by obtain ⟨f, _, rfl⟩ := List.mem_map.1 he; rfl), List.map_map]
  exact List.map_id' _
theorem conf_ent (a : List FilesFile) (p : List UInt8) : p ∉ confS (a.map entE) := fun h => by
  obtain ⟨e, he, h0, _⟩ := conf_mem.1 h
  obtain ⟨f, _, rfl⟩ := List.mem_map.1 he
  exact h0 rfl
theorem safe_ent (a : List FilesFile) (p : List UInt8) : safeP a (a.map entE) a p = true := by
  unfold safeP
  rw [stF_ent, decide_eq_true rfl, decide_eq_false (conf_ent a p)]; rfl
theorem lostW_ent {a b : List FilesFile} (ha : GoodF a) (hb : GoodF b) {z : FilesFile} (hz : z ∈ a) : lostW ⟨b, [], []⟩ (touchedP a ⟨b, [], []⟩) z = false := by
  unfold lostW
  split
  · rfl
  · next hn =>
    have hzb : ∃ y ∈ b, y.path = z.path := by
      by_cases m : z.path ∈ touchedP a ⟨b, [], []⟩
      · cases hg : gt b z.path with
        | none => exact absurd ⟨m, hg⟩ hn
        | some y => exact ⟨y, (gt_some hb.r).1 hg⟩
      · have hq : gt a z.path = gt b z.path := by
          by_cases q : gt a z.path = gt b z.path
          · exact q
          · exact absurd (touched_mem.2 (.inl q)) m
        have hg : gt a z.path = some z := (gt_some ha.r).2 ⟨hz, rfl⟩
        rw [hg] at hq
        exact ⟨z, ((gt_some hb.r).1 hq.symm).1, rfl⟩
    obtain ⟨y, hy, e⟩ := hzb
    refine List.any_eq_false.2 fun p hp => ?_
    unfold hitP
    show ¬ ((gt b p).isSome && clashS p z.path) = true
    cases hg : gt b p with
    | none => simp
    | some g =>
      obtain ⟨hgm, rfl⟩ := (gt_some hb.r).1 hg
      rw [← e, good_clash hb hgm hy]; simp
theorem lays_ent {b : List FilesFile} (hb : GoodF b) : ∀ (ps : List (List UInt8)) (x : List FilesFile), R x → (∀ z ∈ x, z ∈ b) → ps.foldl (layP ⟨b, [], []⟩) (x.map entE) = (putsF b ps x).map entE
  | [], _, _, _ => rfl
  | p :: r, x, hx, hm => by
    have e : layP ⟨b, [], []⟩ (x.map entE) p = (putO x (gt b p)).map entE := by
      unfold layP
      rw [if_neg (by simp)]
      show (match gt b p with | none => x.map entE | some f => putP (x.map entE) ⟨p, 0, f.mode, f.data, 0, 0⟩) = _
      cases hg : gt b p with
      | none => rfl
      | some f =>
        obtain ⟨hfm, rfl⟩ := (gt_some hb.r).1 hg
        exact put_ent hx fun z hz => good_clash hb (hm z hz) hfm
    show r.foldl _ (layP ⟨b, [], []⟩ (x.map entE) p) = (putsF b r (putO x (gt b p))).map entE
    rw [e]
    refine lays_ent hb r _ (putO_R hx _) fun z hz => ?_
    cases hg : gt b p with
    | none => rw [hg] at hz; exact hm z hz
    | some f =>
      rw [hg] at hz
      rcases (putF_mem x f z).1 hz with q | ⟨q, _⟩
      · rw [q]; exact ((gt_some hb.r).1 hg).1
      · exact hm z q
theorem laid_all {a b : List FilesFile} (ha : GoodF a) (hb : GoodF b) : putsF b (touchedP a ⟨b, [], []⟩) (cutsF (touchedP a ⟨b, [], []⟩) a) = b := by
  refine R.extg (puts_R _ _ (cuts_R ha.r _)) hb.r fun q => ?_
  rw [gt_laid ha.r]
  split
  · rfl
  · next m =>
    by_cases k : gt a q = gt b q
    · exact k
    · exact absurd (touched_mem.2 (.inl k)) m
theorem apply_ent {a b : List FilesFile} (ha : GoodF a) (hb : GoodF b) : applyP (touchedP a ⟨b, [], []⟩) a ⟨b, [], []⟩ (a.map entE) a = (b.map entE, b, Err.nil) := by
  unfold applyP
  rw [nil_lost (fun p _ => safe_ent a p) (fun z hz => lostW_ent ha hb hz), if_neg (by simp)]
  show (List.foldl (layP ⟨b, [], []⟩) _ _, putsF b _ _, Err.nil) = _
  rw [drops_ent, lays_ent hb _ _ (cuts_R ha.r _) ?_, laid_all ha hb]
  intro z hz
  rw [cuts_eq] at hz
  obtain ⟨h1, h2⟩ := List.mem_filter.1 hz
  have m : z.path ∉ touchedP a ⟨b, [], []⟩ := by simpa using h2
  have hq : gt a z.path = gt b z.path := by
    by_cases q : gt a z.path = gt b z.path
    · exact q
    · exact absurd (touched_mem.2 (.inl q)) m
  rw [(gt_some ha.r).2 ⟨h1, rfl⟩] at hq
  exact ((gt_some hb.r).1 hq.symm).1
theorem force_ent {a b : List FilesFile} (ha : GoodF a) (hb : GoodF b) : forceF b (a.filter (outF a (a.map entE))) = b := by
  have e : a.filter (outF a (a.map entE)) = [] := List.filter_eq_nil_iff.2 fun z hz => by
    unfold outF
    rw [(gt_some ha.r).2 ⟨hz, rfl⟩]; simp
  rw [e]
  refine R.ext (force_R b [] (by simp [R])) hb.r fun z => ⟨fun h => ?_, fun h => ?_⟩
  · rcases force_mem b [] z h with q | q
    · exact q
    · cases q
  · exact ((gt_some (force_R b [] (by simp [R]))).1 (force_get b [] (by simp [R]) hb z h)).1
theorem same15 {x : List IndexEntry} (h : x.length ≤ 1000000) : Sh.index_Same x x = some true := by
  unfold Sh.index_Same Sh.slices_EqualFunc_index_Entry_index_Entry_index_Entry_index_Entry
  rw [if_pos (by rfl)]
  have : ∀ z : IndexEntry, Sh.index_Same_1 z z = some true := fun z => by unfold Sh.index_Same_1; simp
  apply Ok.eq
  refine ok_bd.2 (Ok.mono (Q := fun b => b = true) ?_ fun b hb => ok_some.2 hb)
  refine gl_chk x (fun _ => True) _ ?_ ?_
  · intro i z i0 hi hz _
    rw [if_pos hi, gl_atv i0 hz, Option.bind_some, Option.bind_some]
    show Ok ((Sh.index_Same_1 z z).bind _) _
    rw [this, Option.bind_some, if_neg (by simp)]
    exact ok_gd.2 ⟨⟨by omega, by omega⟩, ⟨_, rfl, .inl ⟨rfl, trivial⟩⟩⟩
  · intro _
    rw [if_neg (by omega)]
    exact up_up (ok_some.2 rfl)
theorem planClean_ok (a b : List FilesFile) : Sh.rectolaw20_PlanClean a b = some true := by
  apply Ok.eq
  unfold Sh.rectolaw20_PlanClean
  rw [knownL20, Option.bind_some, if_neg (by simp)]
  refine ok_jnP (fun x => x = false → (a.length ≤ 64 ∧ GoodF a) ∧ b.length ≤ 64 ∧ GoodF b) ?_ ?_
  · intro x hx
    cases x with
    | true => rw [if_pos (by rfl), ok_some]
    | false =>
      obtain ⟨hA, hB⟩ := hx rfl
      have ba := GoodF.bd hA
      have bb := GoodF.bd hB
      have hal := hA.1
      have hbl := hB.1
      have hm : (a.map entE).length = a.length := List.length_map ..
      have hm2 : (b.map entE).length = b.length := List.length_map ..
      have hI := ent_good hA.2
      have hap : Sh.plan_Apply a ⟨b, [], []⟩ (a.map entE) a = some (b.map entE, b, Err.nil) := by
        rw [apply20 ba bb ba hI ⟨by omega, fun e he => by obtain ⟨f, hf, rfl⟩ := List.mem_map.1 he; exact ba.p f hf⟩ (by simp) (by simp) (by simp) (by simp) ?_, apply_ent hA.2 hB.2]
        have h1 := touched_len a ⟨b, [], []⟩
        simp only [List.length_nil] at h1 ⊢
        omega
      rw [if_neg (by simp), iof20 a (by omega), Option.bind_some, hap, Option.bind_some, Option.bind_some, force20 ba bb ba (by omega), Option.bind_some, force_ent hA.2 hB.2]
      dsimp only
      rw [if_pos (by rfl), same14 b b (by omega), Option.bind_some, if_pos (by simp), Option.bind_some, if_pos (by simp), iof20 b (by omega), Option.bind_some, same15 (by omega), Option.bind_some, if_pos (by rfl), Option.bind_some, of15 (by omega), Option.bind_some, all15 (by omega), Option.bind_some, if_pos (by rfl), Option.bind_some]
      rw [lost20 ba bb ba hI (by omega) (by simp) (by simp), Option.bind_some, nil_lost (fun p _ => safe_ent a p) (fun z hz => lostW_ent hA.2 hB.2 hz), ok_some]
      rfl
  · intro K hK
    refine ok_bd.2 ((few14 a).mono fun b1 h1 => ?_)
    rw [ok_if]
    refine ⟨fun _ => hK _ (by simp), fun q1 => ok_bd.2 ((few14 b).mono fun b2 h2 => ?_)⟩
    rw [ok_if]
    refine ⟨fun _ => hK _ (by simp), fun q2 => ?_⟩
    obtain ⟨a1, a2⟩ := h1 (by simpa using q1)
    obtain ⟨c1, c2⟩ := h2 (by simpa using q2)
    refine ok_bd.2 ((check14 (x := a) (by omega) fun z hz => by have := a2 z hz; omega).mono fun b3 h3 => ?_)
    rw [ok_if]
    refine ⟨fun q3 => ok_bd.2 ((check14 (x := b) (by omega) fun z hz => by have := c2 z hz; omega).mono fun b4 h4 => ?_), fun _ => hK _ (by simp)⟩
    exact hK _ fun q => ⟨h3.1 q3, h4.1 (by simpa using q)⟩
theorem rcut20 (l : List FilesFile) (p : List UInt8) (hb : l.length ≤ 100000000) : Sh.rectoref14_Cut (l.map toF) p = some ((l.filter fun z => !decide (z.path = p)).map toF) := by
  apply Ok.eq
  unfold Sh.rectoref14_Cut
  have hlen : (l.map toF).length = l.length := List.length_map ..
  simp only [hlen]
  refine gl_app l (fun z => !decide (z.path = p)) toF [] _ ?_ ?_
  · intro i z i0 hi hz s hs
    simp only [List.length_nil] at hs
    dsimp only
    rw [if_pos hi]
    refine ok_jnP (fun o => o = if (!decide (z.path = p)) = true then s ++ [toF z] else s) ?_ ?_
    · rintro o rfl
      exact nx_gd ⟨by omega, by omega⟩ rfl
    · intro K hK
      rw [gl_atv i0 (gl_map toF hz), Option.bind_some]
      by_cases q : z.path = p
      · rw [if_pos (show (toF z).path = p from q)]
        exact hK _ (by rw [if_neg (by simp [q])])
      · rw [if_neg (show ¬ (toF z).path = p from q), Option.bind_some]
        simp only [ok_lt, ok_gd]
        exact ⟨by simp only [List.length_cons, List.length_nil]; omega, hK _ (by rw [if_pos (by simp [q])])⟩
  · intro s hs
    dsimp only
    rw [if_neg (by omega)]
    exact up_up (ok_some.2 hs)
theorem rclear20 (l : List FilesFile) (p : List UInt8) (hb : l.length ≤ 100000000) (hl : ∀ z ∈ l, z.path.length ≤ 1000000) (hp : p.length ≤ 1000000) : Sh.rectoref14_Clear (l.map toF) p = some ((l.filter fun z => !clashS z.path p).map toF) := by
  apply Ok.eq
  unfold Sh.rectoref14_Clear
  have hlen : (l.map toF).length = l.length := List.length_map ..
  simp only [hlen]
  refine gl_app l (fun z => !clashS z.path p) toF [] _ ?_ ?_
  · intro i z i0 hi hz s hs
    simp only [List.length_nil] at hs
    dsimp only
    rw [if_pos hi]
    refine ok_jnP (fun o => o = if (!clashS z.path p) = true then s ++ [toF z] else s) ?_ ?_
    · rintro o rfl
      exact nx_gd ⟨by omega, by omega⟩ rfl
    · intro K hK
      have hzp := hl z (List.mem_of_getElem? hz)
      have hc : Sh.rectoref1_Clash (toF z).path p = some (clashS z.path p) := rclash_ok (a := z.path) (by omega) (by omega)
      rw [gl_atv i0 (gl_map toF hz), Option.bind_some, hc, Option.bind_some]
      generalize clashS z.path p = c at hK ⊢
      cases c with
      | true =>
        rw [if_neg (by simp)]
        exact hK _ (by rw [if_neg (by simp)])
      | false =>
        rw [if_pos (by rfl), Option.bind_some]
        simp only [ok_lt, ok_gd]
        exact ⟨by simp only [List.length_cons, List.length_nil]; omega, hK _ (by rw [if_pos (by rfl)])⟩
  · intro s hs
    dsimp only
    rw [if_neg (by omega)]
    exact up_up (ok_some.2 hs)
theorem riof20 (l : List FilesFile) (hb : l.length ≤ 1000000) : Sh.rectoref14_Of (l.map toF) = some ((l.map entE).map toE) := by
  apply Ok.eq
  unfold Sh.rectoref14_Of
  have hlen : (l.map toF).length = l.length := List.length_map ..
  simp only [hlen]
  refine gl_app l (fun _ => true) (fun z => toE (entE z)) [] _ ?_ ?_
  · intro i z i0 hi hz s hs
    simp only [List.length_nil] at hs
    dsimp only
    rw [if_pos hi, gl_atv i0 (gl_map toF hz), Option.bind_some, Option.bind_some, Option.bind_some]
    simp only [ok_lt, ok_gd]
    exact ⟨by simp only [List.length_cons, List.length_nil]; omega, ⟨by omega, by omega⟩, nx_go rfl⟩
  · intro s hs
    dsimp only
    rw [if_neg (by omega)]
    refine up_up (ok_some.2 ?_)
    rw [hs, List.filter_eq_self.2 (fun _ _ => rfl), List.map_map]; rfl
def cutR (x : List Rectoref14File) (p : List UInt8) : List Rectoref14File := x.filter fun z => !decide (z.path = p)
def stepR (x : List Rectoref14File) (f : FilesFile) : List Rectoref14File := (stepF (x.map ofF) f).map toF
theorem ofto (x : List FilesFile) : (x.map toF).map ofF = x := by rw [List.map_map]; exact List.map_id' _
theorem cuts_map : ∀ (qs : List (List UInt8)) (x : List FilesFile), qs.foldl cutR (x.map toF) = (cutsF qs x).map toF
  | [], _ => rfl
  | p :: r, x => by
    rw [List.foldl_cons]
    unfold cutR
    rw [List.filter_map]
    exact cuts_map r _
theorem force_map : ∀ (qs : List FilesFile) (x : List FilesFile), qs.foldl stepR (x.map toF) = (forceF qs x).map toF
  | [], _ => rfl
  | p :: r, x => by
    rw [List.foldl_cons]
    unfold stepR
    rw [ofto]
    exact force_map r _
theorem rforce20 {h to w : List FilesFile} {ix : List IndexEntry} (hh : Bd h) (ht : Bd to) (hw : Bd w) (hib : ix.length ≤ 1000000) : Ok (Sh.rectoref14_Force (h.map toF) (to.map toF) (ix.map toE) (w.map toF)) fun r => ∃ ps, PathsOf [h, stF 0 ix, stF 1 ix, stF 2 ix, stF 3 ix] ps ∧ r = ((to.map entE).map toE, (forceF to (cutsF ps w)).map toF) := by
  unfold Sh.rectoref14_Force Sh.rectoref14_Tracked
  rw [rstage20 ix 0 hib, Option.bind_some, rstage20 ix 1 hib, Option.bind_some, rstage20 ix 2 hib, Option.bind_some, rstage20 ix 3 hib, Option.bind_some]
  have hwn := hw.n
  have htn := ht.n
  refine ok_bd.2 (ok_lt.2 (ok_bd.2 ((pathsr14 [h, stF 0 ix, stF 1 ix, stF 2 ix, stF 3 ix] (by simp) ?_).mono ?_)))
  · intro l hl
    simp only [List.mem_cons, List.not_mem_nil, or_false] at hl
    rcases hl with rfl | rfl | rfl | rfl | rfl
    · exact hh.n
    all_goals exact Nat.le_trans (stF_len _ _) hib
  rintro ps ⟨hps, hpl⟩
  rw [ok_some]
  refine gl_fold ps cutR (w.map toF) _ ?_ ?_
  · intro i z i0 hi hz s hs
    rw [cuts_map] at hs
    dsimp only
    have hl : (cutsF (ps.take i.toNat) w).length ≤ 1000000 := Nat.le_trans (cuts_len _ w) hwn
    rw [if_pos hi, gl_atv i0 hz, Option.bind_some, hs, rcut20 _ z (by omega), Option.bind_some]
    exact nx_gd ⟨by omega, by omega⟩ (by unfold cutR; rw [List.filter_map]; rfl)
  · intro s hs
    rw [cuts_map] at hs
    dsimp only
    rw [if_neg (by omega)]
    refine up_up ?_
    have hsR : R (cutsF ps w) := cuts_R hw.r ps
    have hsl : (cutsF ps w).length ≤ 1000000 := Nat.le_trans (cuts_len _ w) hwn
    have hsp : ∀ z ∈ cutsF ps w, z.path.length ≤ 1000000 := fun z hz => hw.p z (by rw [cuts_eq] at hz; exact (List.mem_filter.1 hz).1)
    rw [hs]
    have hlen : (to.map toF).length = to.length := List.length_map ..
    simp only [hlen]
    refine gl_fold to stepR ((cutsF ps w).map toF) _ ?_ ?_
    · intro i z i0 hi hz u hu
      rw [force_map] at hu
      have huR : R (forceF (to.take i.toNat) (cutsF ps w)) := force_R _ _ hsR
      have hul : (forceF (to.take i.toNat) (cutsF ps w)).length ≤ 3000000 := by
        refine Nat.le_trans (force_len _ _) ?_
        rw [List.length_take]; omega
      have hzp := ht.p z (List.mem_of_getElem? hz)
      have hup : ∀ y ∈ forceF (to.take i.toNat) (cutsF ps w), y.path.length ≤ 1000000 := fun y hy => by
        rcases force_mem _ _ _ hy with q | q
        · exact ht.p y (List.mem_of_mem_take q)
        · exact hsp y q
      dsimp only
      rw [if_pos hi, gl_atv i0 (gl_map toF hz), Option.bind_some, Option.bind_some, hu]
      show Ok ((Sh.rectoref14_Clear _ z.path).bind _) _
      rw [rclear20 _ z.path (by omega) hup hzp, Option.bind_some]
      show Ok ((Sh.rectoref14_Put _ (toF z)).bind _) _
      rw [putr14 (huR.sub List.filter_sublist) (by have := List.length_filter_le (fun y : FilesFile => !clashS y.path z.path) (forceF (to.take i.toNat) (cutsF ps w)); omega), Option.bind_some]
      refine nx_gd ⟨by omega, by omega⟩ ?_
      unfold stepR
      rw [ofto]; rfl
    · intro u hu
      rw [force_map] at hu
      dsimp only
      rw [if_neg (by omega)]
      refine up_up ?_
      rw [riof20 to htn, Option.bind_some, ok_some]
      exact ⟨ps, hps, by rw [hu]⟩
theorem out_cuts {h w : List FilesFile} {ix : List IndexEntry} (hR : R h) (hi : GoodI ix) {ps : List (List UInt8)} (hp : PathsOf [h, stF 0 ix, stF 1 ix, stF 2 ix, stF 3 ix] ps) : w.filter (outF h ix) = cutsF ps w := by
  rw [cuts_eq]
  refine List.filter_congr fun z hz => ?_
  have e : z.path ∈ ps ↔ outF h ix z = false := by
    rw [hp.2]
    unfold outF
    constructor
    · rintro ⟨l, hl, f, hf, q⟩
      simp only [List.mem_cons, List.not_mem_nil, or_false] at hl
      have st : ∀ n, f ∈ stF n ix → (decide (gt h z.path = none) && !ix.any fun e => decide (e.path = z.path)) = false := fun n hn => by
        obtain ⟨e, he, _, hep, _⟩ := stF_mem hn
        have : ix.any (fun e => decide (e.path = z.path)) = true := List.any_eq_true.2 ⟨e, he, decide_eq_true (hep.trans q)⟩
        rw [this]; simp
      rcases hl with rfl | rfl | rfl | rfl | rfl
      · have : gt l z.path ≠ none := fun k => gt_none.1 k f hf q
        rw [decide_eq_false this]; rfl
      all_goals exact st _ hf
    · intro q
      rw [Bool.and_eq_false_iff] at q
      rcases q with q | q
      · have q := of_decide_eq_false q
        cases hg : gt h z.path with
        | none => exact absurd hg q
        | some f => exact ⟨h, by simp, f, (gt_some hR).1 hg⟩
      · have q : ix.any (fun e => decide (e.path = z.path)) = true := by simpa using q
        obtain ⟨e, he, hep⟩ := List.any_eq_true.1 q
        have hv := hi.v e he
        have hst : e.stage = 0 ∨ e.stage = 1 ∨ e.stage = 2 ∨ e.stage = 3 := by
          have h1 := hv.2.1
          have h2 := hv.2.2.1
          omega
        have hm : ∀ n, e.stage = n → (⟨e.path, e.mode, e.data⟩ : FilesFile) ∈ stF n ix := fun n hn => by
          unfold stF
          exact List.mem_map.2 ⟨e, List.mem_filter.2 ⟨he, decide_eq_true hn⟩, rfl⟩
        rcases hst with k | k | k | k
        · exact ⟨_, by simp, _, hm 0 k, of_decide_eq_true hep⟩
        · exact ⟨stF 1 ix, by simp, _, hm 1 k, of_decide_eq_true hep⟩
        · exact ⟨stF 2 ix, by simp, _, hm 2 k, of_decide_eq_true hep⟩
        · exact ⟨stF 3 ix, by simp, _, hm 3 k, of_decide_eq_true hep⟩
  by_cases m : z.path ∈ ps
  · rw [e.1 m, decide_eq_true m]; rfl
  · rw [decide_eq_false m]
    cases q : outF h ix z with
    | true => rfl
    | false => exact absurd (e.2 q) m
theorem planForces_ok (h to : List FilesFile) (ix : List IndexEntry) (w : List FilesFile) : Sh.rectolaw20_PlanForces h to ix w = some true := by
  apply Ok.eq
  unfold Sh.rectolaw20_PlanForces
  rw [knownL20, Option.bind_some, if_neg (by simp)]
  refine ok_bd.2 ((few20 h ⟨to, [], []⟩ ix w).mono fun b hb => ?_)
  cases b with
  | false => rw [if_pos (by rfl), ok_some]
  | true =>
    have F := hb rfl
    have bh := GoodF.bd F.h
    have bt : Bd to := GoodF.bd F.f
    have hT : GoodF to := F.f.2
    have bw := GoodF.bd F.w
    have hhl := F.h.1
    have htl : to.length ≤ 64 := F.f.1
    have hwl := F.w.1
    have hil := F.i.1
    have hm2 : (to.map entE).length = to.length := List.length_map ..
    rw [if_neg (by simp), force20 bh bt bw (by omega), Option.bind_some, of14 h (by omega), Option.bind_some, of14 to (by omega), Option.bind_some, of15 (by omega), Option.bind_some, of14 w (by omega), Option.bind_some]
    refine ok_bd.2 ((rforce20 bh bt bw (by omega)).mono ?_)
    rintro r ⟨ps, hps, rfl⟩
    rw [out_cuts F.h.2.r F.i.2 hps]
    dsimp only
    have huR : R (forceF to (cutsF ps w)) := force_R _ _ (cuts_R bw.r ps)
    have hul : (forceF to (cutsF ps w)).length ≤ 1000 := by
      have h1 := force_len to (cutsF ps w)
      have h2 := cuts_len ps w
      omega
    refine ok_jnP (fun b => b = false) ?_ ?_
    · rintro b rfl
      rw [if_neg (by simp)]
      refine gl_chk to (fun _ => True) _ ?_ ?_
      · intro i z i0 hi hz _
        have hg : getF (forceF to (cutsF ps w)) z.path = (z, true) := getF_some (force_get to _ (cuts_R bw.r ps) hT z (List.mem_of_getElem? hz))
        rw [if_pos hi, gl_atv i0 hz, Option.bind_some, get14 huR (by omega), Option.bind_some, hg]
        refine ok_jnP (fun b => b = false) ?_ ?_
        · rintro b rfl
          rw [if_neg (by simp)]
          exact ok_gd.2 ⟨⟨by omega, by omega⟩, ⟨_, rfl, .inl ⟨rfl, trivial⟩⟩⟩
        · intro K hK
          rw [if_neg (by simp)]
          exact hK _ (by simp)
      · intro _
        rw [if_neg (by omega)]
        refine up_up ?_
        rw [iof20 to (by omega), Option.bind_some, same15 (by omega), Option.bind_some, ok_some]
    · intro K hK
      rw [all15 (by omega), Option.bind_some, if_neg (by simp), of14 _ (by omega), Option.bind_some, samer14 _ _ (by omega), Option.bind_some]
      exact hK _ (by simp)
end Go.S
end
