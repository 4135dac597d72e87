/- Contracts over heaps, and plain laws, for the functions that the laws of chapter 10 call, part 7: The book of memory over bytes (Keep): as BookA, BookB over tokens. The book of memory over bytes (Stays, Apart): as BookA, BookB over tokens. Spoil over heaps: it writes into the unit's own lists alone. Spoil over heaps, the whole. ref9.Sorted and ref9.Right over heaps: the document's right units. A unit that is right, by the document's own reckoning, in plain Lean: each thing right, no name twice, the globals rising and among the names. ref9.Right over heaps: the number that the document gives a unit. ObjectNumbers over heaps. ObjectBack, ObjectCuts over heaps. ObjectBack, ObjectCuts over heaps, joined. Condition: as each statement says. -/
import Derived.Test.YtnjohginlglonaaGreatDoorP6
import Derived.Test.YtnjohginlglonaaGreatDoorZrZ
import Derived.Test.YtnjohginlglonaaGreatDoorP2
set_option linter.unusedVariables false
set_option maxRecDepth 100000
namespace Go.Sx.BB
open Go.Sx Go.Sx.Ob
open Go.Proofs
def enB (b : UInt8) : List Value := [.int .u8 (b.toNat : Int)]
theorem SL.vwE {h : Hp} {b : Nat} {e : TypeId} {p : Option Addr} {l c : Nat} {bs : Bt} (s : SL h b e 1 p l c (bs.map enB)) : VwB h p l bs :=
  ⟨by rw [s.1, List.length_map], fun i hi => by
    obtain ⟨a, ha, hc⟩ := Sx.SL.cells s (i := i) (by rw [List.length_map]; exact hi)
    rw [List.getElem_map] at hc
    exact ⟨a, ha, hc⟩⟩
theorem sameBB_hc {h : Hp} {b b' : Nat} {e e' : TypeId} {p0 p1 : Option Addr} {l0 c0 l1 c1 : Nat} {ts : Bt} (hlen : ts.length ≤ 2 ^ 48) (s0 : SL h b e 1 p0 l0 c0 (ts.map enB)) (s1 : SL h b' e' 1 p1 l1 c1 (ts.map enB)) :
    HCp Tryz.prog 34 [.slice p0 l0 c0, .slice p1 l1 c1] h (.bool true) := by
  refine hcp_of mixed Tryz.func34 (by kernel_rfl) (t_spandrelbook_Same_byte__eq p0 l0 c0 p1 l1 c1) ?_
  have v := SL.vwE s0
  have w := SL.vwE s1
  have vl := v.len
  have wl := w.len
  refine cond_f (by rw [vl, wl]; simp) ?_
  refine loop_of (cs := [(false, [.bool]), (false, [.int .i64])]) (fun y m h' => ∃ i : Nat, y.2.1 = (i : Int) ∧ m = ts.length - i ∧ i ≤ ts.length ∧ h' = h) (false, (0 : Int), ()) ts.length rfl ⟨0, rfl, rfl, by omega, rfl⟩ ?_
  rintro ⟨b2, n3, ⟨⟩⟩ m h1 ⟨i, hi, rfl, hile, rfl⟩
  simp only at hi
  subst hi
  dsimp only [flat, unc, unc1, List.nil_append, List.cons_append]
  refine cond_mk (fun r => ?_) (fun r => ⟨rfl, rfl⟩)
  have r := of_decide_eq_true r
  have hil : i < ts.length := by omega
  obtain ⟨a, ha, hc⟩ := v.cells i hil
  obtain ⟨b, hb, hd⟩ := w.cells i hil
  refine need_of ⟨by omega, by omega⟩ (osome_mk ha ?_)
  refine loads_of (((ts[i].toNat : Nat) : Int), ()) hc ?_
  dsimp only [flat, unc, unc1, List.nil_append, List.cons_append]
  refine need_of ⟨by omega, by omega⟩ (osome_mk hb ?_)
  refine loads_of (((ts[i].toNat : Nat) : Int), ()) hd ?_
  dsimp only [flat, unc, unc1, List.nil_append, List.cons_append]
  refine cond_f (by simp) ?_
  refine again_mk (cs := [(false, [.bool]), (false, [.int .i64])]) (b2, ((i + 1 : Nat) : Int), ()) (ts.length - (i + 1)) rfl (by omega) (by rw [wrap_i64 (by omega) (by omega)]; rfl) ?_
  exact ⟨i + 1, rfl, rfl, by omega, rfl⟩
/-- A list that a book keeps, and its copy. -/
structure Ent where
  p : Option Addr
  l : Nat
  c : Nat
  q : Option Addr
  d : Nat
  ts : Bt
def Ent.one (e : Ent) : List Value := [.slice e.p e.l e.c]
def Ent.two (e : Ent) : List Value := [.slice e.q e.l e.d]
def Ent.blks (e : Ent) : List Nat := blkOf e.p ++ blkOf e.q
/-- A book in a heap: its own block, the lists, the copies; nothing shares a block. -/
structure Book (h : Hp) (gb b : Nat) (pl : Option Addr) (cl : Nat) (pw : Option Addr) (cw : Nat) (es : List Ent) : Prop where
  box : ∃ held : Int, Box h gb 47 [.slice pl es.length cl, .slice pw es.length cw, .int .i64 held, .bool false]
  ge : b ≤ gb
  one : SL h b 22 1 pl es.length cl (es.map Ent.one)
  two : SL h b 22 1 pw es.length cw (es.map Ent.two)
  ent : ∀ e, e ∈ es → SL h b 5 1 e.p e.l e.c (e.ts.map enB) ∧ SL h b 5 1 e.q e.l e.d (e.ts.map enB) ∧ e.ts.length ≤ 2 ^ 40
  gpl : gb ∉ blkOf pl
  gpw : gb ∉ blkOf pw
  plw : ∀ i, i ∈ blkOf pl → i ∉ blkOf pw
  eg : ∀ e, e ∈ es → ∀ i, i ∈ e.blks → i ≠ gb ∧ i ∉ blkOf pl ∧ i ∉ blkOf pw
  pq : ∀ e, e ∈ es → ∀ i, i ∈ blkOf e.p → i ∉ blkOf e.q
  ee : es.Pairwise fun e f => ∀ i, i ∈ e.blks → i ∉ f.blks
theorem Book.lt {h : Hp} {gb b : Nat} {pl : Option Addr} {cl : Nat} {pw : Option Addr} {cw : Nat} {es : List Ent} (B : Book h gb b pl cl pw cw es) : gb < h.size ∧ (∀ i, i ∈ blkOf pl → i < h.size) ∧ (∀ i, i ∈ blkOf pw → i < h.size) ∧ ∀ e, e ∈ es → ∀ i, i ∈ e.blks → i < h.size := by
  obtain ⟨held, hb⟩ := B.box
  refine ⟨hb.lt, fun i hi => (B.one.blk hi).2, fun i hi => (B.two.blk hi).2, fun e he i hi => ?_⟩
  rcases List.mem_append.1 hi with hi | hi
  · exact ((B.ent e he).1.blk hi).2
  · exact ((B.ent e he).2.1.blk hi).2
theorem Book.keep {ws : List Nat} {h h' : Hp} {gb b : Nat} {pl : Option Addr} {cl : Nat} {pw : Option Addr} {cw : Nat} {es : List Ent} (B : Book h gb b pl cl pw cw es) (k : Ch ws h h')
    (h1 : gb ∉ ws) (h2 : ∀ i, i ∈ blkOf pl → i ∉ ws) (h3 : ∀ i, i ∈ blkOf pw → i ∉ ws) (h4 : ∀ e, e ∈ es → ∀ i, i ∈ e.blks → i ∉ ws) : Book h' gb b pl cl pw cw es := by
  obtain ⟨held, hb⟩ := B.box
  exact ⟨⟨held, hb.keep k h1⟩, B.ge, B.one.keep' k h2, B.two.keep' k h3, fun e he => ⟨(B.ent e he).1.keep' k fun i hi => h4 e he i (List.mem_append_left _ hi), (B.ent e he).2.1.keep' k fun i hi => h4 e he i (List.mem_append_right _ hi), (B.ent e he).2.2⟩,
    B.gpl, B.gpw, B.plw, B.eg, B.pq, B.ee⟩
/-- The book's own block turns, its lists stay. -/
theorem Book.rebox {h h' : Hp} {gb b : Nat} {pl : Option Addr} {cl : Nat} {pw : Option Addr} {cw : Nat} {es : List Ent} (B : Book h gb b pl cl pw cw es) (k : Ch [gb] h h') {held : Int}
    (hb : Box h' gb 47 [.slice pl es.length cl, .slice pw es.length cw, .int .i64 held, .bool false]) : Book h' gb b pl cl pw cw es :=
  ⟨⟨held, hb⟩, B.ge, B.one.keep' k fun i hi => by simp; exact fun e => B.gpl (e ▸ hi), B.two.keep' k fun i hi => by simp; exact fun e => B.gpw (e ▸ hi),
    fun e he => ⟨(B.ent e he).1.keep' k fun i hi => by simp; exact (B.eg e he i (List.mem_append_left _ hi)).1, (B.ent e he).2.1.keep' k fun i hi => by simp; exact (B.eg e he i (List.mem_append_right _ hi)).1, (B.ent e he).2.2⟩,
    B.gpl, B.gpw, B.plw, B.eg, B.pq, B.ee⟩
theorem blkOf_add (p : Option Addr) (k : Nat) : blkOf (p.map fun a => a.add k) = blkOf p := by
  cases p with
  | none => rfl
  | some a => simp [blkOf, add_block]
/-- The book lets its first list go. -/
theorem Book.tail {h h' : Hp} {gb b : Nat} {pl : Option Addr} {cl : Nat} {pw : Option Addr} {cw : Nat} {es : List Ent} (B : Book h gb b pl cl pw cw es) (k : Ch [gb] h h') (h1 : 1 ≤ es.length) {held : Int}
    (hb : Box h' gb 47 [.slice (pl.map fun a => a.add 1) (es.length - 1) (cl - 1), .slice (pw.map fun a => a.add 1) (es.length - 1) (cw - 1), .int .i64 held, .bool false]) :
    Book h' gb b (pl.map fun a => a.add 1) (cl - 1) (pw.map fun a => a.add 1) (cw - 1) (es.drop 1) := by
  have hl : (es.drop 1).length = es.length - 1 := by rw [List.length_drop]
  have hm : ∀ e, e ∈ es.drop 1 → e ∈ es := fun e he => List.mem_of_mem_drop he
  have o1 := (B.one.drop (k := 1) h1).keep' k (fun i hi => by rw [blkOf_add] at hi; simp; exact fun e => B.gpl (e ▸ hi))
  have o2 := (B.two.drop (k := 1) h1).keep' k (fun i hi => by rw [blkOf_add] at hi; simp; exact fun e => B.gpw (e ▸ hi))
  rw [← List.map_drop] at o1 o2
  refine ⟨⟨held, by rw [hl]; exact hb⟩, B.ge, by rw [hl]; exact o1, by rw [hl]; exact o2,
    fun e he => ⟨(B.ent e (hm e he)).1.keep' k fun i hi => by simp; exact (B.eg e (hm e he) i (List.mem_append_left _ hi)).1, (B.ent e (hm e he)).2.1.keep' k fun i hi => by simp; exact (B.eg e (hm e he) i (List.mem_append_right _ hi)).1, (B.ent e (hm e he)).2.2⟩,
    by rw [blkOf_add]; exact B.gpl, by rw [blkOf_add]; exact B.gpw, by rw [blkOf_add, blkOf_add]; exact B.plw, ?_, fun e he => B.pq e (hm e he), B.ee.sublist (List.drop_sublist 1 es)⟩
  intro e he i hi
  rw [blkOf_add, blkOf_add]
  exact B.eg e (hm e he) i hi
/-- What has come of a book since a heap. -/
def BookTo (h : Hp) (gb b : Nat) (pl pw : Option Addr) (es : List Ent) (p : Option Addr) (h' : Hp) (es' : List Ent) : Prop :=
  ∃ pl' cl' pw' cw', Book h' gb b pl' cl' pw' cw' es' ∧ Ch (gb :: (blkOf pl ++ blkOf pw)) h h' ∧ (∀ i, i ∈ blkOf pl' → i ∈ blkOf pl ∨ h.size ≤ i) ∧ (∀ i, i ∈ blkOf pw' → i ∈ blkOf pw ∨ h.size ≤ i) ∧
    ∀ e, e ∈ es' → ∀ i, i ∈ e.blks → i ∈ blkOf p ∨ h.size ≤ i ∨ ∃ f, f ∈ es ∧ i ∈ f.blks
theorem chGb {h h1 h2 : Hp} {gb : Nat} {l : List Nat} (a : Ch (gb :: l) h h1) (c : Ch [gb] h1 h2) : Ch (gb :: l) h h2 := a.trans c (fun i hi _ => by simp at hi; simp [hi])
/-- Keep: behind it the book holds the list too, or fewer. -/
theorem keep_hc {h : Hp} {gb b : Nat} {pl : Option Addr} {cl : Nat} {pw : Option Addr} {cw : Nat} {es : List Ent} (B : Book h gb b pl cl pw cw es) (hlen : es.length ≤ 4000) {p : Option Addr} {l c : Nat} {ts : Bt}
    (s : SL h b 5 1 p l c (ts.map enB)) (hts : ts.length ≤ 2 ^ 40) (hfresh : ∀ i, i ∈ blkOf p → i ≠ gb ∧ i ∉ blkOf pl ∧ i ∉ blkOf pw ∧ ∀ e, e ∈ es → i ∉ e.blks) (hbs : b ≤ h.size) :
    HC Tryz.prog 15 #[.pointer (some ⟨gb, 0, none⟩), .slice p l c] h fun v h' => v = .tuple #[] ∧ ∃ es', es'.length ≤ 4000 ∧ BookTo h gb b pl pw es p h' es' := by
  refine hcr_of (args := [.pointer (some ⟨gb, 0, none⟩), .slice p l c]) mixed Tryz.func15 (by kernel_rfl) (t_spandrelbook_Book_byte___Keep_eq (some ⟨gb, 0, none⟩) p l c) ?_
  unfold t_spandrelbook_Book_byte___Keep
  have hll : l = ts.length := by rw [s.1, List.length_map]
  have hsz := B.lt
  obtain ⟨held0, hb⟩ := B.box
  refine join_of (cs := []) (fun _ h2 => ∃ p1 c1 h1, SL h1 b 22 1 p1 (es.length + 1) c1 (es.map Ent.one ++ [[.slice p l c]]) ∧ Ch (blkOf pl) h h1 ∧ (p1 = pl ∨ ∃ a, p1 = some a ∧ h.size ≤ a.block) ∧ Ch [gb] h1 h2 ∧
    Box h2 gb 47 [.slice p1 (es.length + 1) c1, .slice pw es.length cw, .int .i64 held0, .bool false]) ?_ ?_
  · refine osome_mk rfl (loads_box hb ((pl, es.length, cl), ()) rfl ?_)
    dsimp only [flat, unc, unc1, List.nil_append, List.cons_append]
    refine push_of (e := 22) (z := .slice none 0 0) (sz := 1) (by' := 24) (vs := [.slice p l c]) (by kernel_rfl) (by kernel_rfl) rfl (by omega) (by omega) (by kernel_rfl) rfl rfl B.one hbs (by omega) (by omega) ?_
    intro p1 c1 h1 o1 k1 hp1
    have hb1 := hb.keep k1 B.gpl
    refine osome_mk rfl (stores_of hb1 rfl (by simp) ?_)
    intro h2 hb2 k2 z2
    exact meet_mk (cs := []) () rfl rfl ⟨p1, c1, h1, o1, k1, hp1, k2, hb2⟩
  rintro ⟨⟩ h2 ⟨p1, c1, h1, o1, k1, hp1, k2, hb2⟩
  refine join_of (cs := []) (fun _ h' => ∃ es', es'.length ≤ 4001 ∧ BookTo h gb b pl pw es p h' es') ?_ ?_
  · refine osome_mk rfl ?_
    rw [add_box]
    refine loads_box hb2 ((pw, es.length, cw), ()) rfl ?_
    dsimp only [flat, unc, unc1, List.nil_append, List.cons_append]
    have s2 : SL h2 b 5 1 p l c (ts.map enB) := (s.keep' k1 fun i hi => (hfresh i hi).2.1).keep' k2 fun i hi => by simp; exact (hfresh i hi).1
    have hpl : (ts.map enB).flatten.all plainV = true := by
      rw [List.all_eq_true]
      intro v hv
      obtain ⟨x, hx, hv⟩ := List.mem_flatten.1 hv
      obtain ⟨t, _, rfl⟩ := List.mem_map.1 hx
      simp only [enB, List.mem_cons, List.not_mem_nil, or_false] at hv
      subst hv; rfl
    have g1 := k1.size
    have g2 := k2.size
    refine copy_of (e := 5) (z := .int .u8 0) (sz := 1) (by' := 1) (b' := b) (by kernel_rfl) (by kernel_rfl) rfl s2 hpl (by omega) (by omega) (by omega) ?_
    intro q d h3 sq k3 hq
    have hb3 := hb2.keep k3 (by simp)
    refine ⟨⟨hb3.cells _ rfl, trivial⟩, ?_⟩
    have g3 := k3.size
    have w3 : SL h3 b 22 1 pw es.length cw (es.map Ent.two) := ((B.two.keep' k1 fun i hi hh => B.plw i hh hi).keep' k2 fun i hi => by simp; exact fun e => B.gpw (e ▸ hi)).keep' k3 (by simp)
    refine push_st (e := 22) (z := .slice none 0 0) (sz := 1) (by' := 24) (vs := [.slice q l d]) (by kernel_rfl) (by kernel_rfl) rfl (by omega) (by omega) (by kernel_rfl) rfl rfl w3 (by omega) (by omega) (by omega) (fun h' e => ⟨(hb3.keep e (by simp)).cells _ rfl, trivial⟩) ?_
    intro p2 c2 h4 o2 k4 hp2
    have hb4 := hb3.keep k4 B.gpw
    refine osome_mk rfl ?_
    rw [add_box]
    refine stores_of hb4 rfl (by simp) ?_
    intro h5 hb5 k5 z5
    have hb5 : Box h5 gb 47 [.slice p1 (es.length + 1) c1, .slice p2 (es.length + 1) c2, .int .i64 held0, .bool false] := hb5
    refine meet_mk (cs := []) () rfl rfl ⟨es ++ [⟨p, l, c, q, d, ts⟩], by simp; omega, p1, c1, p2, c2, ?_, ?_, ?_, ?_, ?_⟩
    · -- the book
      have bp1 : ∀ i, i ∈ blkOf p1 → i ∈ blkOf pl ∨ h.size ≤ i := by
        intro i hi
        rcases hp1 with rfl | ⟨a, rfl, ha⟩
        · exact .inl hi
        · simp [blkOf] at hi; right; omega
      have bp2 : ∀ i, i ∈ blkOf p2 → i ∈ blkOf pw ∨ h3.size ≤ i := by
        intro i hi
        rcases hp2 with rfl | ⟨a, rfl, ha⟩
        · exact .inl hi
        · simp [blkOf] at hi; right; omega
      have bq : ∀ i, i ∈ blkOf q → h2.size ≤ i ∧ i < h3.size := by
        intro i hi
        refine ⟨?_, (sq.blk hi).2⟩
        rcases hq with rfl | ⟨a, rfl, ha⟩
        · simp [blkOf] at hi
        · simp [blkOf] at hi; omega
      have lp1 : ∀ i, i ∈ blkOf p1 → i < h1.size := fun i hi => (o1.blk hi).2
      have lp : ∀ i, i ∈ blkOf p → i < h.size := fun i hi => (s.blk hi).2
      have o1' : SL h5 b 22 1 p1 (es.length + 1) c1 (es.map Ent.one ++ [[.slice p l c]]) := by
        refine (((o1.keep' k2 fun i hi => ?_).keep' k3 (by simp)).keep' k4 fun i hi hh => ?_).keep' k5 fun i hi => ?_
        · simp; intro e; subst e
          rcases bp1 i hi with hh | hh
          · exact B.gpl hh
          · have := hsz.1; omega
        · rcases bp1 i hi with h' | h'
          · exact B.plw i h' hh
          · have := hsz.2.2.1 i hh; omega
        · simp; intro e; subst e
          rcases bp1 i hi with hh | hh
          · exact B.gpl hh
          · have := hsz.1; omega
      have o2' : SL h5 b 22 1 p2 (es.length + 1) c2 (es.map Ent.two ++ [[.slice q l d]]) := o2.keep' k5 fun i hi => by
        simp; intro e; subst e
        rcases bp2 i hi with hh | hh
        · exact B.gpw hh
        · have := hsz.1; omega
      have kall : ∀ {e' : TypeId} {sz : Nat} {p' : Option Addr} {l' c' : Nat} {xs : List (List Value)}, SL h b e' sz p' l' c' xs → (∀ i, i ∈ blkOf p' → i ≠ gb ∧ i ∉ blkOf pl ∧ i ∉ blkOf pw) → SL h5 b e' sz p' l' c' xs := by
        intro e' sz p' l' c' xs s' hd
        exact ((((s'.keep' k1 fun i hi => (hd i hi).2.1).keep' k2 fun i hi => by simp; exact (hd i hi).1).keep' k3 (by simp)).keep' k4 fun i hi => (hd i hi).2.2).keep' k5 fun i hi => by simp; exact (hd i hi).1
      have hsq : SL h5 b 5 1 q l d (ts.map enB) := (sq.keep' k4 fun i hi hh => by have := (bq i hi).1; have := hsz.2.2.1 i hh; omega).keep' k5 fun i hi => by
        simp; intro e; subst e; have := (bq i hi).1; have := hsz.1; omega
      have hlen1 : (es ++ [(⟨p, l, c, q, d, ts⟩ : Ent)]).length = es.length + 1 := by simp
      refine ⟨⟨held0, by rw [hlen1]; exact hb5⟩, B.ge, by rw [hlen1, List.map_append]; exact o1', by rw [hlen1, List.map_append]; exact o2', ?_, ?_, ?_, ?_, ?_, ?_, ?_⟩
      · intro e he
        rcases List.mem_append.1 he with he | he
        · have hd := B.eg e he
          exact ⟨kall (B.ent e he).1 fun i hi => hd i (List.mem_append_left _ hi), kall (B.ent e he).2.1 fun i hi => hd i (List.mem_append_right _ hi), (B.ent e he).2.2⟩
        · have he : e = ⟨p, l, c, q, d, ts⟩ := by simpa using he
          subst he
          exact ⟨kall s fun i hi => ⟨(hfresh i hi).1, (hfresh i hi).2.1, (hfresh i hi).2.2.1⟩, hsq, hts⟩
      · intro hi
        rcases bp1 gb hi with hh | hh
        · exact B.gpl hh
        · have := hsz.1; omega
      · intro hi
        rcases bp2 gb hi with hh | hh
        · exact B.gpw hh
        · have := hsz.1; omega
      · intro i hi hi2
        rcases bp1 i hi with hh | hh <;> rcases bp2 i hi2 with h' | h'
        · exact B.plw i hh h'
        · have := hsz.2.1 i hh; omega
        · have := hsz.2.2.1 i h'; omega
        · have := lp1 i hi; omega
      · intro e he i hi
        rcases List.mem_append.1 he with he | he
        · have hd := B.eg e he i hi
          have hlt := hsz.2.2.2 e he i hi
          exact ⟨hd.1, fun hh => (bp1 i hh).elim hd.2.1 (by omega), fun hh => (bp2 i hh).elim hd.2.2 (by omega)⟩
        · have he : e = ⟨p, l, c, q, d, ts⟩ := by simpa using he
          subst he
          rcases List.mem_append.1 hi with hi | hi
          · have hd := hfresh i hi
            have hlt := lp i hi
            exact ⟨hd.1, fun hh => (bp1 i hh).elim hd.2.1 (by omega), fun hh => (bp2 i hh).elim hd.2.2.1 (by omega)⟩
          · have := bq i hi
            refine ⟨by have := hsz.1; omega, fun hh => ?_, fun hh => ?_⟩
            · have := lp1 i hh; omega
            · rcases bp2 i hh with hh | hh
              · have := hsz.2.2.1 i hh; omega
              · omega
      · intro e he i hi
        rcases List.mem_append.1 he with he | he
        · exact B.pq e he i hi
        · have he : e = ⟨p, l, c, q, d, ts⟩ := by simpa using he
          subst he
          intro hh
          have := (bq i hh).1
          have := lp i hi
          omega
      · refine List.pairwise_append.2 ⟨B.ee, by simp, ?_⟩
        intro e he f hf i hi hh
        have hf : f = ⟨p, l, c, q, d, ts⟩ := by simpa using hf
        subst hf
        rcases List.mem_append.1 hh with hh | hh
        · exact (hfresh i hh).2.2.2 e he hi
        · have := (bq i hh).1
          have := hsz.2.2.2 e he i hi
          omega
    · refine Ch.trans (Ch.trans (Ch.trans (Ch.trans (k1.mono fun i hi _ => by simp [hi]) k2 fun i hi _ => by simp at hi; simp [hi]) k3 (by simp)) k4 fun i hi _ => by simp [hi]) k5 fun i hi _ => by simp at hi; simp [hi]
    · intro i hi
      rcases hp1 with rfl | ⟨a, rfl, ha⟩
      · exact .inl hi
      · simp [blkOf] at hi; right; omega
    · intro i hi
      rcases hp2 with rfl | ⟨a, rfl, ha⟩
      · exact .inl hi
      · simp [blkOf] at hi; right; omega
    · intro e he i hi
      rcases List.mem_append.1 he with he | he
      · exact .inr (.inr ⟨e, he, hi⟩)
      · have he : e = ⟨p, l, c, q, d, ts⟩ := by simpa using he
        subst he
        rcases List.mem_append.1 hi with hi | hi
        · exact .inl hi
        · right; left
          rcases hq with rfl | ⟨a, rfl, ha⟩
          · simp [blkOf] at hi
          · simp [blkOf] at hi; omega
  · rintro ⟨⟩ h1 ⟨es1, hl1, pl1, cl1, pw1, cw1, B1, k1, a1, a2, a3⟩
    obtain ⟨held, hb⟩ := B1.box
    refine osome_mk rfl ?_
    rw [add_box]
    refine loads_box hb (held, ()) rfl ?_
    dsimp only [flat, unc, unc1, List.nil_append, List.cons_append]
    refine osome_mk rfl ?_
    rw [add_box]
    refine stores_of hb rfl (by simp) ?_
    intro h2 hb2 k2 z2
    refine loop_of (cs := []) (fun _ n h' => ∃ es', es'.length ≤ 4001 ∧ n = es'.length ∧ BookTo h gb b pl pw es p h' es') () es1.length rfl ⟨es1, hl1, rfl, pl1, cl1, pw1, cw1, B1.rebox k2 hb2, chGb k1 k2, a1, a2, a3⟩ ?_
    clear hb k2 hb2 z2 B1 k1 a1 a2 a3 hl1 es1
    rintro ⟨⟩ m h3 ⟨es1, hl1, rfl, hB⟩
    refine join_of (cs := []) (fun _ h' => ∃ es', es'.length = es1.length ∧ 1 < es'.length ∧ BookTo h gb b pl pw es p h' es') ?_ ?_
    · have hB0 := hB
      obtain ⟨pl1, cl1, pw1, cw1, B1, k1, a1, a2, a3⟩ := hB
      obtain ⟨held, hb⟩ := B1.box
      refine osome_mk rfl (loads_box hb ((pl1, es1.length, cl1), ()) rfl ?_)
      dsimp only [flat, unc, unc1, List.nil_append, List.cons_append]
      refine cond_mk (fun g1 => ?_) (fun g1 => ?_)
      · have g1 := of_decide_eq_true g1
        refine osome_mk rfl ?_
        rw [add_box]
        refine loads_box hb (held, ()) rfl ?_
        dsimp only [flat, unc, unc1, List.nil_append, List.cons_append]
        have mt : ∀ L, (T.again 1 []) [L, fun vs h' => ∃ y : HVs (flat []), vs = parts [] (hvs _ y) ∧ ∃ es', es'.length = es1.length ∧ 1 < es'.length ∧ BookTo h gb b pl pw es p h' es'] (fun v h' => v = .tuple #[] ∧ ∃ es', es'.length ≤ 4000 ∧ BookTo h gb b pl pw es p h' es') h3 :=
          fun L => meet_mk (cs := []) () rfl rfl ⟨es1, rfl, by omega, hB0⟩
        refine cond_mk (fun g2 => mt _) (fun g2 => ?_)
        refine osome_mk rfl (loads_box hb ((pl1, es1.length, cl1), ()) rfl ?_)
        dsimp only [flat, unc, unc1, List.nil_append, List.cons_append]
        refine cond_mk (fun g3 => mt _) (fun g3 => ?_)
        have g3 := of_decide_eq_false g3
        exact ⟨rfl, es1, by omega, hB0⟩
      · have g1 := of_decide_eq_false g1
        exact ⟨rfl, es1, by omega, hB0⟩
    · rintro ⟨⟩ h4 ⟨es2, hl2, hg2, hB⟩
      refine join_of (cs := []) (fun _ h' => ∃ es', es'.length = es1.length ∧ 1 < es'.length ∧ BookTo h gb b pl pw es p h' es') ?_ ?_
      · obtain ⟨pl1, cl1, pw1, cw1, B1, k1, a1, a2, a3⟩ := hB
        obtain ⟨held, hb⟩ := B1.box
        refine osome_mk rfl ?_
        rw [add_box]
        refine loads_box hb (false, ()) rfl ?_
        dsimp only [flat, unc, unc1, List.nil_append, List.cons_append]
        refine cond_f rfl (osome_mk rfl (loads_box hb ((pl1, es2.length, cl1), ()) rfl ?_))
        dsimp only [flat, unc, unc1, List.nil_append, List.cons_append]
        obtain ⟨q1, hq1, c1⟩ := B1.one.cells (i := 0) (by rw [List.length_map]; omega)
        obtain ⟨q2, hq2, c2⟩ := B1.two.cells (i := 0) (by rw [List.length_map]; omega)
        rw [List.getElem_map] at c1 c2
        have hent := B1.ent es2[0] (List.getElem_mem (by omega))
        generalize es2[0] = e at c1 c2 hent
        refine need_of ⟨by omega, by omega⟩ (osome_mk hq1 (loads_of ((e.p, e.l, e.c), ()) c1 ?_))
        dsimp only [flat, unc, unc1, List.nil_append, List.cons_append]
        refine osome_mk rfl ?_
        rw [add_box]
        refine loads_box hb ((pw1, es2.length, cw1), ()) rfl ?_
        dsimp only [flat, unc, unc1, List.nil_append, List.cons_append]
        refine need_of ⟨by omega, by omega⟩ (osome_mk hq2 (loads_of ((e.q, e.l, e.d), ()) c2 ?_))
        dsimp only [flat, unc, unc1, List.nil_append, List.cons_append]
        refine call_bool (sameBB_hc (by have := hent.2.2; omega) hent.1 hent.2.1) ?_
        refine ⟨⟨hb.cells _ rfl, hb.cells _ rfl, ?_, trivial⟩, ?_⟩
        · exact hb.cells _ rfl
        refine osome_mk rfl ?_
        rw [add_box]
        refine stores_of hb rfl (by simp) ?_
        intro h5 hb5 k5 z5
        exact meet_mk (cs := []) () rfl rfl ⟨es2, hl2, hg2, pl1, cl1, pw1, cw1, B1.rebox k5 hb5, chGb k1 k5, a1, a2, a3⟩
      · clear hB hl2 hg2 es2
        rintro ⟨⟩ h5 ⟨es2, hl2, hg2, pl1, cl1, pw1, cw1, B0, k0, a1, a2, a3⟩
        obtain ⟨held5, hb5⟩ := B0.box
        refine osome_mk rfl ?_
        rw [add_box]
        refine loads_box hb5 (held5, ()) rfl ?_
        dsimp only [flat, unc, unc1, List.nil_append, List.cons_append]
        refine osome_mk rfl (loads_box hb5 ((pl1, es2.length, cl1), ()) rfl ?_)
        dsimp only [flat, unc, unc1, List.nil_append, List.cons_append]
        obtain ⟨q1, hq1, c1⟩ := B0.one.cells (i := 0) (by rw [List.length_map]; omega)
        rw [List.getElem_map] at c1
        generalize es2[0] = e at c1
        refine need_of ⟨by omega, by omega⟩ (osome_mk hq1 (loads_of ((e.p, e.l, e.c), ()) c1 ?_))
        dsimp only [flat, unc, unc1, List.nil_append, List.cons_append]
        refine osome_mk rfl ?_
        rw [add_box]
        refine stores_of hb5 rfl (by simp) ?_
        intro h6 hb6 k6 z6
        have B1 := B0.rebox k6 hb6
        have k1 := chGb k0 k6
        obtain ⟨held, hb⟩ := B1.box
        have hcap : ∀ {p' : Option Addr} {c' : Nat} {xs : List (List Value)}, SL h6 b 22 1 p' es2.length c' xs → es2.length ≤ c' := by
          intro p' c' xs s'
          cases p' with
          | none =>
            have h1 := s'.2.2.2
            have h2 := s'.1
            rw [h1, List.length_nil] at h2; omega
          | some a => obtain ⟨_, _, _, _, _, hh, _⟩ := s'.2.2; exact hh.1
        have hc1 := hcap B1.one
        have hc2 := hcap B1.two
        refine osome_mk rfl (loads_box hb ((pl1, es2.length, cl1), ()) rfl ?_)
        dsimp only [flat, unc, unc1, List.nil_append, List.cons_append]
        refine need_of ⟨by omega, by omega, by omega⟩ (osome_mk rfl ?_)
        rw [if_neg (by omega)]
        refine stores_of hb rfl (by simp) ?_
        intro h7 hb7 k7 z7
        have hb7 : Box h7 gb 47 [.slice (pl1.map fun a => a.add 1) (es2.length - 1) (cl1 - 1), .slice pw1 es2.length cw1, .int .i64 held, .bool false] := hb7
        refine osome_mk rfl ?_
        rw [add_box]
        refine loads_box hb7 ((pw1, es2.length, cw1), ()) rfl ?_
        dsimp only [flat, unc, unc1, List.nil_append, List.cons_append]
        refine need_of ⟨by omega, by omega, by omega⟩ (osome_mk rfl ?_)
        rw [if_neg (by omega), add_box]
        refine stores_of hb7 rfl (by simp) ?_
        intro h8 hb8 k8 z8
        have hb8 : Box h8 gb 47 [.slice (pl1.map fun a => a.add 1) (es2.length - 1) (cl1 - 1), .slice (pw1.map fun a => a.add 1) (es2.length - 1) (cw1 - 1), .int .i64 held, .bool false] := hb8
        have k78 : Ch [gb] h6 h8 := k7.trans k8 (fun i hi _ => hi)
        refine again_mk (cs := []) () (es2.length - 1) rfl (by omega) rfl ⟨es2.drop 1, by simp; omega, by simp, _, _, _, _, B1.tail k78 (by omega) hb8, chGb k1 k78, ?_, ?_, fun e he => a3 e (List.mem_of_mem_drop he)⟩
        · rw [blkOf_add]; exact a1
        · rw [blkOf_add]; exact a2
end Go.Sx.BB

set_option linter.unusedVariables false
set_option maxRecDepth 100000
namespace Go.Sx.BB
open Go.Sx Go.Sx.Ob
open Go.Proofs
/-- What lay below a place lies there as it did. -/
def Since (b : Nat) (h h' : Hp) : Prop := h.size ≤ h'.size ∧ ∀ i, i < b → i < h.size → h'[i]? = h[i]?
theorem Since.of {ws : List Nat} {b : Nat} {h h' : Hp} (k : Ch ws h h') (hw : ∀ i, i ∈ ws → i < h.size → b ≤ i) : Since b h h' :=
  ⟨k.size, fun i hi hl => k.same i hl fun hm => by have := hw i hm hl; omega⟩
theorem Since.trans {b : Nat} {h h1 h2 : Hp} (a : Since b h h1) (c : Since b h1 h2) : Since b h h2 :=
  ⟨Nat.le_trans a.1 c.1, fun i hi hl => (c.2 i hi (Nat.lt_of_lt_of_le hl a.1)).trans (a.2 i hi hl)⟩
theorem Since.ext {h h1 h2 : Hp} (a : Ext h h1) (c : Since h.size h1 h2) : Ext h h2 :=
  ⟨Nat.le_trans a.size c.1, fun i hi _ => (c.2 i hi (Nat.lt_of_lt_of_le hi a.size)).trans (a.same i hi (by simp))⟩
/-- Stays: each list is as its copy. -/
theorem stays_hc {h : Hp} {gb b : Nat} {pl : Option Addr} {cl : Nat} {pw : Option Addr} {cw : Nat} {es : List Ent} (B : Book h gb b pl cl pw cw es) (hlen : es.length ≤ 4000) :
    HC Tryz.prog 48 #[.pointer (some ⟨gb, 0, none⟩)] h fun v h' => v = .bool true ∧ Book h' gb b pl cl pw cw es ∧ Ch [gb] h h' := by
  refine hcr_of (args := [.pointer (some ⟨gb, 0, none⟩)]) mixed Tryz.func48 (by kernel_rfl) (t_spandrelbook_Book_byte___Stays_eq (some ⟨gb, 0, none⟩)) ?_
  unfold t_spandrelbook_Book_byte___Stays
  refine loop_of (cs := [(false, [.int .i64])]) (fun x n h' => ∃ i : Nat, x.1 = (i : Int) ∧ i ≤ es.length ∧ n = es.length - i ∧ Book h' gb b pl cl pw cw es ∧ Ch [gb] h h') ((0 : Int), ()) es.length rfl ⟨0, rfl, by omega, by omega, B, Ch.refl _ _⟩ ?_
  clear B
  rintro ⟨n1, ⟨⟩⟩ m h1 ⟨i, hi, hile, rfl, B, k1⟩
  simp only at hi
  subst hi
  dsimp only [flat, unc, unc1, List.nil_append, List.cons_append]
  obtain ⟨held, hb⟩ := B.box
  refine osome_mk rfl (loads_box hb ((pl, es.length, cl), ()) rfl ?_)
  dsimp only [flat, unc, unc1, List.nil_append, List.cons_append]
  refine cond_mk (fun g1 => ?_) (fun g1 => ?_)
  · have g1 := of_decide_eq_true g1
    have hlt : i < es.length := by omega
    refine osome_mk rfl ?_
    rw [add_box]
    refine loads_box hb (false, ()) rfl ?_
    dsimp only [flat, unc, unc1, List.nil_append, List.cons_append]
    refine cond_f rfl (osome_mk rfl (loads_box hb ((pl, es.length, cl), ()) rfl ?_))
    dsimp only [flat, unc, unc1, List.nil_append, List.cons_append]
    obtain ⟨q1, hq1, c1⟩ := B.one.cells (i := i) (by rw [List.length_map]; omega)
    obtain ⟨q2, hq2, c2⟩ := B.two.cells (i := i) (by rw [List.length_map]; omega)
    rw [List.getElem_map] at c1 c2
    have hent := B.ent es[i] (List.getElem_mem hlt)
    generalize es[i] = e at c1 c2 hent
    rw [show Int.toNat (i : Int) = i by omega]
    refine need_of ⟨by omega, by omega⟩ (osome_mk hq1 (loads_of ((e.p, e.l, e.c), ()) c1 ?_))
    dsimp only [flat, unc, unc1, List.nil_append, List.cons_append]
    refine osome_mk rfl ?_
    rw [add_box]
    refine loads_box hb ((pw, es.length, cw), ()) rfl ?_
    dsimp only [flat, unc, unc1, List.nil_append, List.cons_append]
    refine need_of ⟨by omega, by omega⟩ (osome_mk hq2 (loads_of ((e.q, e.l, e.d), ()) c2 ?_))
    refine call_bool (sameBB_hc (by have := hent.2.2; omega) hent.1 hent.2.1) ?_
    refine ⟨⟨hb.cells _ rfl, hb.cells _ rfl, hb.cells _ rfl, trivial⟩, ?_⟩
    refine osome_mk rfl ?_
    rw [add_box]
    refine stores_of hb rfl (by simp) ?_
    intro h5 hb5 k5 z5
    have hw : IntKind.wrap .i64 ((i : Int) + 1) = ((i + 1 : Nat) : Int) := by rw [wrap_i64 (by omega) (by omega)]; omega
    exact again_mk (cs := [(false, [.int .i64])]) (((i + 1 : Nat) : Int), ()) (es.length - (i + 1)) rfl (by omega) (congrArg (fun z => [Value.int .i64 z]) hw) ⟨i + 1, rfl, by omega, rfl, B.rebox k5 hb5, k1.trans k5 (fun j hj _ => hj)⟩
  · refine osome_mk rfl ?_
    rw [add_box]
    refine loads_box hb (false, ()) rfl ?_
    exact ⟨rfl, B, k1⟩
/-- The mark of a place. -/
def mkN (i j : Int) : Int := IntKind.wrap .u8 (Int.fdiv (IntKind.wrap .i64 (i + (1 : Int))) ((2 : Int) ^ (min (IntKind.u64.wrap (IntKind.i64.wrap (8 * j.tmod 3))).toNat IntKind.i64.bits)))
def mkL (k j : Nat) : List Value := [.int .u8 (mkN k j)]
/-- A list's whole room, of which so much is marked. -/
def Room (h : Hp) (b : Nat) (p : Option Addr) (c k m : Nat) : Prop :=
  match p with
  | none => c = 0
  | some a => ∃ g o cells, a = ⟨g, o, none⟩ ∧ b ≤ g ∧ c < 9223372036854775808 ∧ Box h g 5 cells ∧ o + c * 1 ≤ cells.length ∧ ∀ j, j < m → (cells.drop (o + j * 1)).take 1 = mkL k j
theorem Room.of_SL {h : Hp} {b : Nat} {p : Option Addr} {l c : Nat} {xs : List (List Value)} (s : SL h b 5 1 p l c xs) (k : Nat) : Room h b p c k 0 := by
  cases p with
  | none => exact s.2.2.1
  | some a =>
    obtain ⟨g, pre, rest, rfl, hbg, hlc, hbox, hr⟩ := s.2.2
    have hx := flatten_length xs s.2.1
    have := s.1
    refine ⟨g, pre.length, _, rfl, hbg, hlc.2, hbox, ?_, fun j hj => by omega⟩
    rw [List.length_append, List.length_append, hx, hr, ← this]
    omega
theorem Room.keep {ws : List Nat} {h h' : Hp} {b : Nat} {p : Option Addr} {c k m : Nat} (r : Room h b p c k m) (kk : Ch ws h h') (hw : ∀ i, i ∈ blkOf p → i ∉ ws) : Room h' b p c k m := by
  cases p with
  | none => exact r
  | some a =>
    obtain ⟨g, o, cells, rfl, hbg, hc, hbox, hr, hm⟩ := r
    exact ⟨g, o, cells, rfl, hbg, hc, hbox.keep kk (hw g (by simp [blkOf])), hr, hm⟩
theorem setL_take {cells vs : List Value} {o n : Nat} (hv : vs.length = n) (h : o + n ≤ cells.length) : ((setL cells o vs).drop o).take n = vs := by
  rw [setL_eq _ _ _ (by omega), List.append_assoc]
  rw [List.drop_append_of_le_length (by rw [List.length_take]; omega), List.drop_of_length_le (by rw [List.length_take]; omega), List.nil_append, List.take_append_of_le_length (by omega), List.take_of_length_le (by omega)]
theorem setL_before {cells vs : List Value} {o o' n : Nat} (h : o + vs.length ≤ cells.length) (h' : o' + n ≤ o) : ((setL cells o vs).drop o').take n = (cells.drop o').take n := by
  rw [setL_eq _ _ _ (by omega), List.append_assoc]
  rw [List.drop_append_of_le_length (by rw [List.length_take]; omega), List.take_append_of_le_length (by rw [List.length_drop, List.length_take]; omega)]
  rw [List.drop_take, List.take_take, Nat.min_eq_left (by omega)]
theorem mark_hc (i j : Int) (h : Hp) : HC Tryz.prog 19 #[.int .i64 i, .int .i64 j] h fun v h' => v = .int .u8 (mkN i j) ∧ Ext h h' := by
  refine hcr_of (args := [.int .i64 i, .int .i64 j]) mixed Tryz.func19 (by kernel_rfl) (t_spandrelbook_Bytes_eq i j) ?_
  unfold t_spandrelbook_Bytes
  refine need_of (by decide) (need_of ?_ ?_)
  · simp only [IntKind.wrap, IntKind.bits, IntKind.signed]
    exact Int.emod_nonneg _ (by decide)
  · exact ⟨rfl, Ch.refl _ _⟩
/-- The state of a book while it is marked. -/
structure Marking (h : Hp) (gb b : Nat) (pl : Option Addr) (cl : Nat) (es : List Ent) (i m : Nat) : Prop where
  box : ∃ (v w : Value), Box h gb 47 [.slice pl es.length cl, v, w, .bool false]
  one : SL h b 22 1 pl es.length cl (es.map Ent.one)
  room : ∀ k, (hk : k < es.length) → Room h b es[k].p es[k].c k (if k < i then es[k].c else if k = i then m else 0)
theorem Marking.keep {ws : List Nat} {h h' : Hp} {gb b : Nat} {pl : Option Addr} {cl : Nat} {es : List Ent} {i m : Nat} (M : Marking h gb b pl cl es i m) (k : Ch ws h h') (h1 : gb ∉ ws) (h2 : ∀ i, i ∈ blkOf pl → i ∉ ws) (h3 : ∀ e, e ∈ es → ∀ i, i ∈ e.blks → i ∉ ws) :
    Marking h' gb b pl cl es i m := by
  obtain ⟨v, w, hb⟩ := M.box
  exact ⟨⟨v, w, hb.keep k h1⟩, M.one.keep' k h2, fun j hj => (M.room j hj).keep k fun x hx => h3 es[j] (List.getElem_mem hj) x (List.mem_append_left _ hx)⟩
theorem apart_hc {h : Hp} {gb b : Nat} {pl : Option Addr} {cl : Nat} {pw : Option Addr} {cw : Nat} {es : List Ent} (B : Book h gb b pl cl pw cw es) (hlen : es.length ≤ 4000) (hbs : b ≤ h.size) :
    HC Tryz.prog 18 #[.pointer (some ⟨gb, 0, none⟩), .func (Fn.func 19) #[] #[]] h fun v h' => v = .bool true ∧ Since b h h' := by
  refine hcr_of (args := [.pointer (some ⟨gb, 0, none⟩), .func (Fn.func 19) #[] #[]]) mixed Tryz.func18 (by kernel_rfl) (t_spandrelbook_Book_byte___Apart_eq (some ⟨gb, 0, none⟩) (.func (Fn.func 19) #[] #[])) ?_
  unfold t_spandrelbook_Book_byte___Apart
  refine call_of (stays_hc B hlen) ?_
  rintro _ h0 ⟨rfl, B0, k0⟩
  refine ⟨(true, ()), rfl, ?_⟩
  dsimp only [flat, unc, unc1, List.nil_append, List.cons_append]
  refine cond_f rfl ?_
  have s0 : Since b h h0 := Since.of k0 fun i hi _ => by simp at hi; subst hi; exact B.ge
  have M0 : Marking h0 gb b pl cl es 0 0 := by
    obtain ⟨held, hb⟩ := B0.box
    refine ⟨⟨_, _, hb⟩, B0.one, fun k hk => ?_⟩
    have := Room.of_SL (B0.ent es[k] (List.getElem_mem hk)).1 k
    rw [if_neg (by omega)]
    by_cases h : k = 0
    · rw [if_pos h]; exact this
    · rw [if_neg h]; exact this
  have hsz : h.size ≤ h0.size := k0.size
  have gpl := B.gpl
  have eg := B.eg
  have hge := B.ge
  have hpw : ∀ i j (hi : i < es.length) (hj : j < es.length), i ≠ j → ∀ x, x ∈ es[i].blks → x ∉ es[j].blks := by
    intro i j hi hj hij x hx
    rcases Nat.lt_or_ge i j with h1 | h1
    · exact (List.pairwise_iff_getElem.1 B.ee) i j hi hj h1 x hx
    · intro hx2
      exact (List.pairwise_iff_getElem.1 B.ee) j i hj hi (by omega) x hx2 hx
  have hlt := B.lt
  clear B B0
  -- the marking
  refine loop_of (cs := [(false, [.int .i64])]) (fun x n h' => ∃ i : Nat, x.1 = (i : Int) ∧ i ≤ es.length ∧ n = es.length - i ∧ Marking h' gb b pl cl es i 0 ∧ Since b h h' ∧ h.size ≤ h'.size) ((0 : Int), ()) es.length rfl ⟨0, rfl, by omega, by omega, M0, s0, hsz⟩ ?_
  clear M0 s0 hsz k0 h0
  rintro ⟨n1, ⟨⟩⟩ m0 h1 ⟨i, hi, hile, rfl, M, s1, z1⟩
  simp only at hi
  subst hi
  dsimp only [flat, unc, unc1, List.nil_append, List.cons_append]
  obtain ⟨v, w, hb⟩ := M.box
  refine osome_mk rfl (loads_box hb ((pl, es.length, cl), ()) rfl ?_)
  dsimp only [flat, unc, unc1, List.nil_append, List.cons_append]
  refine cond_mk (fun g1 => ?_) (fun g1 => ?_)
  · have g1 := of_decide_eq_true g1
    have hilt : i < es.length := by omega
    obtain ⟨q1, hq1, c1⟩ := M.one.cells (i := i) (by rw [List.length_map]; omega)
    rw [List.getElem_map] at c1
    rw [show Int.toNat (i : Int) = i by omega]
    refine osome_mk rfl (loads_box hb ((pl, es.length, cl), ()) rfl ?_)
    dsimp only [flat, unc, unc1, List.nil_append, List.cons_append]
    refine need_of ⟨by omega, by omega⟩ (osome_mk hq1 (loads_of ((es[i].p, es[i].l, es[i].c), ()) c1 ?_))
    dsimp only [flat, unc, unc1, List.nil_append, List.cons_append]
    refine osome_mk rfl (loads_box hb ((pl, es.length, cl), ()) rfl ?_)
    dsimp only [flat, unc, unc1, List.nil_append, List.cons_append]
    refine need_of ⟨by omega, by omega⟩ (osome_mk hq1 (loads_of ((es[i].p, es[i].l, es[i].c), ()) c1 ?_))
    dsimp only [flat, unc, unc1, List.nil_append, List.cons_append]
    refine need_of ⟨by omega, by omega, by omega⟩ ?_
    clear hb c1 hq1 q1
    refine loop_of (cs := [(false, [.int .i64])]) (fun x n h' => ∃ j : Nat, x.1 = (j : Int) ∧ j ≤ es[i].c ∧ n = es[i].c - j ∧ Marking h' gb b pl cl es i j ∧ Since b h h' ∧ h.size ≤ h'.size) ((0 : Int), ()) es[i].c rfl ⟨0, rfl, by omega, by omega, M, s1, z1⟩ ?_
    clear M s1 z1 v w
    rintro ⟨n2, ⟨⟩⟩ m1 h2 ⟨j, hj, hjle, rfl, M, s2, z2⟩
    simp only at hj
    subst hj
    dsimp only [flat, unc, unc1, List.nil_append, List.cons_append]
    refine cond_mk (fun g2 => ?_) (fun g2 => ?_)
    · have g2 := of_decide_eq_true g2
      have hjlt : j < es[i].c := by omega
      refine callv_of (cap := []) (by kernel_rfl) rfl (mark_hc i j h2) ?_
      rintro _ h3 ⟨rfl, e3⟩
      refine ⟨(mkN i j, ()), rfl, ?_⟩
      dsimp only [flat, unc, unc1, List.nil_append, List.cons_append]
      have M3 := M.keep e3 (by simp) (by simp) (by simp)
      refine need_of ⟨by omega, by omega⟩ ?_
      have hroom := M3.room i hilt
      rw [if_neg (by omega), if_pos rfl] at hroom
      cases hp : es[i].p with
      | none =>
        rw [hp] at hroom
        have : es[i].c = 0 := hroom
        omega
      | some a =>
        rw [hp] at hroom
        obtain ⟨g, o, cells, rfl, hbg, hcm, hbox, hr, hm⟩ := hroom
        have hgb : g ∈ es[i].blks := by unfold Ent.blks; rw [hp]; simp [blkOf]
        rw [if_neg (by omega)]
        refine osome_mk (a := ⟨g, o, none⟩) (by rw [Option.map_some, add_box, Nat.add_zero]) ?_
        rw [add_box, show Int.toNat (j : Int) = j by omega]
        refine stores_of hbox rfl (by simp; omega) ?_
        intro h4 hb4 k4 z4
        have hw : IntKind.wrap .i64 ((j : Int) + 1) = ((j + 1 : Nat) : Int) := by rw [wrap_i64 (by omega) (by omega)]; omega
        have hcl : (setL cells (o + j * 1) (mkL i j)).length = cells.length := setL_length _ _ _
        refine again_mk (cs := [(false, [.int .i64])]) (((j + 1 : Nat) : Int), ()) (es[i].c - (j + 1)) rfl (by omega) (congrArg (fun z => [Value.int .i64 z]) hw) ⟨j + 1, rfl, by omega, rfl, ?_, ?_, ?_⟩
        · obtain ⟨v, w, hb⟩ := M3.box
          refine ⟨⟨v, w, hb.keep k4 ?_⟩, M3.one.keep' k4 fun x hx => ?_, fun k hk => ?_⟩
          · simp; exact fun e => (eg es[i] (List.getElem_mem hilt) g hgb).1 e.symm
          · simp; intro e; subst e; exact (eg es[i] (List.getElem_mem hilt) x hgb).2.1 hx
          · by_cases hki : k = i
            · subst hki
              rw [if_neg (by omega), if_pos rfl, hp]
              refine ⟨g, o, _, rfl, hbg, hcm, hb4, by rw [setL_length]; exact hr, fun j' hj' => ?_⟩
              by_cases hjj : j' = j
              · subst hjj
                exact setL_take rfl (by omega)
              · rw [← hm j' (by omega)]
                exact setL_before (vs := mkL k j) (by show _ + 1 ≤ _; omega) (by omega)
            · have := M3.room k hk
              rw [if_neg hki] at this ⊢
              refine this.keep k4 fun x hx => ?_
              simp; intro e; subst e
              exact hpw k i hk hilt hki x (List.mem_append_left _ hx) hgb
        · exact (s2.trans (Since.of e3 (by simp))).trans (Since.of k4 fun x hx _ => by simp at hx; subst hx; exact hbg)
        · have := e3.size; have := k4.size; omega
    · have g2 := of_decide_eq_false g2
      have hj : j = es[i].c := by omega
      subst hj
      have hw : IntKind.wrap .i64 ((i : Int) + 1) = ((i + 1 : Nat) : Int) := by rw [wrap_i64 (by omega) (by omega)]; omega
      refine again_mk (cs := [(false, [.int .i64])]) (((i + 1 : Nat) : Int), ()) (es.length - (i + 1)) rfl (by omega) (congrArg (fun z => [Value.int .i64 z]) hw) ⟨i + 1, rfl, by omega, rfl, ⟨M.box, M.one, fun k hk => ?_⟩, s2, z2⟩
      have := M.room k hk
      by_cases hki : k < i
      · rw [if_pos hki] at this
        rw [if_pos (by omega)]; exact this
      · rw [if_neg hki] at this
        by_cases hke : k = i
        · subst hke
          rw [if_pos rfl] at this
          rw [if_pos (by omega)]; exact this
        · rw [if_neg hke] at this
          rw [if_neg (by omega)]
          by_cases hk1 : k = i + 1
          · rw [if_pos hk1]; exact this
          · rw [if_neg hk1]; exact this
  · have g1 := of_decide_eq_false g1
    have hi : i = es.length := by omega
    subst hi
    clear hb
    -- the look
    refine loop_of (cs := [(false, [.bool]), (false, [.int .i64])]) (fun x n h' => ∃ i : Nat, x.2.1 = (i : Int) ∧ i ≤ es.length ∧ n = es.length - i ∧ Marking h' gb b pl cl es es.length 0 ∧ Since b h h' ∧ h.size ≤ h'.size) (false, (0 : Int), ()) es.length rfl ⟨0, rfl, by omega, by omega, M, s1, z1⟩ ?_
    clear M s1 z1 v w
    rintro ⟨b7, n8, ⟨⟩⟩ m0 h2 ⟨i, hi, hile', rfl, M, s1, z1⟩
    simp only at hi
    subst hi
    dsimp only [flat, unc, unc1, List.nil_append, List.cons_append]
    obtain ⟨v, w, hb⟩ := M.box
    refine osome_mk rfl (loads_box hb ((pl, es.length, cl), ()) rfl ?_)
    dsimp only [flat, unc, unc1, List.nil_append, List.cons_append]
    refine cond_mk (fun g2 => ?_) (fun g2 => ?_)
    · have g2 := of_decide_eq_true g2
      have hilt : i < es.length := by omega
      obtain ⟨q1, hq1, c1⟩ := M.one.cells (i := i) (by rw [List.length_map]; omega)
      rw [List.getElem_map] at c1
      rw [show Int.toNat (i : Int) = i by omega]
      refine osome_mk rfl (loads_box hb ((pl, es.length, cl), ()) rfl ?_)
      dsimp only [flat, unc, unc1, List.nil_append, List.cons_append]
      refine need_of ⟨by omega, by omega⟩ (osome_mk hq1 (loads_of ((es[i].p, es[i].l, es[i].c), ()) c1 ?_))
      dsimp only [flat, unc, unc1, List.nil_append, List.cons_append]
      refine osome_mk rfl (loads_box hb ((pl, es.length, cl), ()) rfl ?_)
      dsimp only [flat, unc, unc1, List.nil_append, List.cons_append]
      refine need_of ⟨by omega, by omega⟩ (osome_mk hq1 (loads_of ((es[i].p, es[i].l, es[i].c), ()) c1 ?_))
      dsimp only [flat, unc, unc1, List.nil_append, List.cons_append]
      refine need_of ⟨by omega, by omega, by omega⟩ ?_
      clear hb c1 hq1 q1
      refine loop_of (cs := [(false, [.bool]), (false, [.int .i64])]) (fun x n h' => ∃ j : Nat, x.2.1 = (j : Int) ∧ j ≤ es[i].c ∧ n = es[i].c - j ∧ Marking h' gb b pl cl es es.length 0 ∧ Since b h h' ∧ h.size ≤ h'.size) (b7, (0 : Int), ()) es[i].c rfl ⟨0, rfl, by omega, by omega, M, s1, z1⟩ ?_
      clear M s1 z1 v w
      rintro ⟨b29, n30, ⟨⟩⟩ m1 h3 ⟨j, hj, hjle, rfl, M, s2, z2⟩
      simp only at hj
      subst hj
      dsimp only [flat, unc, unc1, List.nil_append, List.cons_append]
      refine cond_mk (fun g3 => ?_) (fun g3 => ?_)
      · have g3 := of_decide_eq_true g3
        have hjlt : j < es[i].c := by omega
        refine need_of ⟨by omega, by omega⟩ ?_
        have hroom := M.room i hilt
        rw [if_pos hilt] at hroom
        cases hp : es[i].p with
        | none =>
          rw [hp] at hroom
          have : es[i].c = 0 := hroom
          omega
        | some a =>
          rw [hp] at hroom
          obtain ⟨g, o, cells, rfl, hbg, hcm, hbox, hr, hm⟩ := hroom
          rw [if_neg (by omega)]
          refine osome_mk (a := ⟨g, o, none⟩) (by rw [Option.map_some, add_box, Nat.add_zero]) ?_
          rw [add_box, show Int.toNat (j : Int) = j by omega]
          refine loads_box hbox (mkN i j, ()) (hm j hjlt) ?_
          dsimp only [flat, unc, unc1, List.nil_append, List.cons_append]
          refine callv_of (cap := []) (by kernel_rfl) rfl (mark_hc i j h3) ?_
          rintro _ h4 ⟨rfl, e4⟩
          refine ⟨(mkN i j, ()), rfl, ?_⟩
          dsimp only [flat, unc, unc1, List.nil_append, List.cons_append]
          refine ⟨⟨(hbox.keep e4 (by simp)).cells _ (hm j hjlt), trivial⟩, ?_⟩
          refine cond_f (by simp) ?_
          have hw : IntKind.wrap .i64 ((j : Int) + 1) = ((j + 1 : Nat) : Int) := by rw [wrap_i64 (by omega) (by omega)]; omega
          exact again_mk (cs := [(false, [.bool]), (false, [.int .i64])]) (b29, ((j + 1 : Nat) : Int), ()) (es[i].c - (j + 1)) rfl (by omega) (congrArg (fun z => [Value.bool b29, .int .i64 z]) hw)
            ⟨j + 1, rfl, by omega, rfl, M.keep e4 (by simp) (by simp) (by simp), s2.trans (Since.of e4 (by simp)), by have := e4.size; omega⟩
      · have hw : IntKind.wrap .i64 ((i : Int) + 1) = ((i + 1 : Nat) : Int) := by rw [wrap_i64 (by omega) (by omega)]; omega
        exact again_mk (cs := [(false, [.bool]), (false, [.int .i64])]) (b29, ((i + 1 : Nat) : Int), ()) (es.length - (i + 1)) rfl (by omega) (congrArg (fun z => [Value.bool b29, .int .i64 z]) hw) ⟨i + 1, rfl, by omega, rfl, M, s2, z2⟩
    · refine osome_mk rfl (stores_of hb rfl (by simp) ?_)
      intro h3 hb3 k3 z3
      refine osome_mk rfl ?_
      rw [add_box]
      refine stores_of hb3 rfl (by simp [setL]) ?_
      intro h4 hb4 k4 z4
      refine osome_mk rfl ?_
      rw [add_box]
      refine stores_of hb4 rfl (by simp [setL]) ?_
      intro h5 hb5 k5 z5
      have hs : ∀ {a c : Hp}, Ch [gb] a c → Since b a c := fun k => Since.of k fun x hx _ => by simp at hx; subst hx; exact hge
      exact ⟨rfl, ((s1.trans (hs k3)).trans (hs k4)).trans (hs k5)⟩
end Go.Sx.BB

set_option linter.unusedVariables false
set_option linter.unusedSimpArgs false
set_option maxRecDepth 100000
namespace Go.Sx.Ob
open Go.Proofs
/-- What lies below a place, or from another on, lies there as it did. -/
def Btw (lo hi : Nat) (h h' : Hp) : Prop := h.size ≤ h'.size ∧ ∀ i, i < h.size → (i < lo ∨ hi ≤ i) → h'[i]? = h[i]?
theorem Btw.refl (lo hi : Nat) (h : Hp) : Btw lo hi h h := ⟨Nat.le_refl _, fun _ _ _ => rfl⟩
theorem Btw.step {lo hi : Nat} {h h1 h2 : Hp} {ws : List Nat} (b : Btw lo hi h h1) (k : Ch ws h1 h2) (hw : ∀ i, i ∈ ws → i < h.size → lo ≤ i ∧ i < hi) : Btw lo hi h h2 :=
  ⟨Nat.le_trans b.1 k.size, fun i hi hb => (k.same i (Nat.lt_of_lt_of_le hi b.1) (fun hm => by have := hw i hm hi; omega)).trans (b.2 i hi hb)⟩
theorem Btw.box {lo hi : Nat} {h h' : Hp} (b : Btw lo hi h h') {g : Nat} {e : TypeId} {xs : List Value} (bx : Box h g e xs) (hg : g < lo ∨ hi ≤ g) : Box h' g e xs := (b.2 g bx.lt hg).trans bx
/-- Blocks of terms keep their length. -/
def Shp (hq h' : Hp) : Prop := ∀ g cells, Box hq g 104 cells → ∃ cells', Box h' g 104 cells' ∧ cells'.length = cells.length
theorem Shp.keep {hq h1 h2 : Hp} {ws : List Nat} (s : Shp hq h1) (k : Ch ws h1 h2) (hw : ∀ i, i ∈ ws → i < h1.size → ∃ e ys, Box h1 i e ys ∧ e ≠ 104) : Shp hq h2 := by
  intro g cells b
  obtain ⟨c', b', hl⟩ := s g cells b
  refine ⟨c', b'.keep k (fun hm => ?_), hl⟩
  obtain ⟨e, ys, b2, he⟩ := hw g hm b'.lt
  unfold Box at b' b2
  rw [b'] at b2
  simp only [Option.some.injEq, Obj.cells.injEq] at b2
  exact he b2.2.1.symm
theorem Shp.store {hq h1 h2 : Hp} {g : Nat} {cells cells' : List Value} (s : Shp hq h1) (b1 : Box h1 g 104 cells) (b2 : Box h2 g 104 cells') (hl : cells'.length = cells.length) (k : Ch [g] h1 h2) : Shp hq h2 := by
  intro g' cs b
  obtain ⟨c', b', hc⟩ := s g' cs b
  by_cases hg : g' = g
  · subst hg
    refine ⟨cells', b2, ?_⟩
    unfold Box at b1 b'
    rw [b1] at b'
    simp only [Option.some.injEq, Obj.cells.injEq] at b'
    have := congrArg Array.size b'.1
    simp at this
    omega
  · exact ⟨c', b'.keep k (by simpa using hg), hc⟩
/-- One term of a list is written over. -/
theorem spoilTerm {L : Lp} {K : Value → Hp → Prop} {k : T} {hq h h1 : Hp} {lo : Nat} {p : Option Addr} {l c : Nat} {ts : Tms} (o : SL hq lo 104 2 p l c (ts.map encT)) (bt : Btw lo hq.size h h1) (sh : Shp hq h1) {i : Nat} (hi : i < l) {a : Addr} (ha : p = some a)
    (hk : ∀ h2, Btw lo hq.size h h2 → Shp hq h2 → Ch (blkOf p) h1 h2 → (∀ j, j ∈ blkOf p → ∃ ys, Box h1 j 104 ys) → k L K h2) : T.stores (a.add (i * 2)) [.string ⟨#[115, 112, 111, 105, 108, 116]⟩, .int .u32 (0 : Int)] k L K h1 := by
  subst ha
  obtain ⟨g, pre, rest, rfl, hbg, hlc, hbox, hr⟩ := o.2.2
  obtain ⟨cells, b1, hl⟩ := sh g _ hbox
  have hx := flatten_length _ o.2.1
  have hlen := o.1
  rw [List.length_append, List.length_append, hx, hr, ← hlen] at hl
  have hcap : i * 2 + 2 ≤ l * 2 + (c - l) * 2 := by
    have : (i + 1) * 2 ≤ l * 2 := Nat.mul_le_mul_right 2 hi
    omega
  rw [add_box]
  refine stores_of b1 rfl (by rw [hl]; show pre.length + i * 2 + 2 ≤ _; omega) ?_
  intro h2 b2 k2 z2
  have hlt := hbox.lt
  exact hk h2 (bt.step k2 (fun j hj _ => by simp at hj; omega)) (sh.store b1 b2 (setL_length _ _ _) k2) (k2.mono (by simp [blkOf])) (fun j hj => by simp [blkOf] at hj; subst hj; exact ⟨_, b1⟩)
def junkI : List Value := [.int .i64 (-9 : Int), .string ⟨#[]⟩, .int .i64 (0 : Int), .int .i64 (0 : Int), .int .i64 (0 : Int), .int .i32 (0 : Int), .int .i64 (0 : Int), .slice none 0 0, .int .u32 (0 : Int), .int .i64 (0 : Int)]
def itemsT (p13 : Option Addr) (l14 : Nat) (k : T) : T :=
  T.loop [(false, [.int .i64])] [.int .i64 (0 : Int)] <| fun (n16 : Int) =>
  cond (decide (n16 < (l14 : Int)))
   (T.loop [(false, [.int .i64])] [.int .i64 (0 : Int)] <| fun (n17 : Int) =>
   T.need (((0 : Int) ≤ n16) ∧ (n16 < (l14 : Int))) <|
   T.osome p13 <| fun (a18 : Addr) =>
   T.loads ((a18.add ((Int.toNat n16) * 10)).add 7) [.slice 104] <| fun (p19 : Option Addr) (l20 : Nat) (l21 : Nat) =>
   cond (decide (n17 < (l20 : Int)))
    (T.need (((0 : Int) ≤ n16) ∧ (n16 < (l14 : Int))) <|
    T.osome p13 <| fun (a22 : Addr) =>
    T.loads ((a22.add ((Int.toNat n16) * 10)).add 7) [.slice 104] <| fun (p23 : Option Addr) (l24 : Nat) (l25 : Nat) =>
    T.need (((0 : Int) ≤ n17) ∧ (n17 < (l24 : Int))) <|
    T.osome p23 <| fun (a26 : Addr) =>
    T.stores (a26.add ((Int.toNat n17) * 2)) [.string ⟨#[115, 112, 111, 105, 108, 116]⟩, .int .u32 (0 : Int)] <|
    T.again 2 [.int .i64 (IntKind.wrap .i64 (n17 + (1 : Int)))])
    (T.need (((0 : Int) ≤ n16) ∧ (n16 < (l14 : Int))) <|
    T.osome p13 <| fun (a22 : Addr) =>
    T.stores (a22.add ((Int.toNat n16) * 10)) junkI <|
    T.again 1 [.int .i64 (IntKind.wrap .i64 (n16 + (1 : Int)))]))
   k
theorem itemsT_of {j0 : List Value → Hp → Prop} {K : Value → Hp → Prop} {k : T} {hq h h1 : Hp} {lo : Nat} {p : Option Addr} {l c : Nat} {us : List (Sli × Itm)} (o : LsI hq lo p l c us) (hn : us.length ≤ 65535) (hlo : lo ≤ hq.size) (hqh : hq.size ≤ h.size)
    (Inv : Hp → Prop) (hInv : ∀ a b ws, Inv a → Ch ws a b → (∀ i, i ∈ ws → (i ∈ blkOf p ∨ ∃ ys, Box a i 104 ys)) → (∀ i, i ∈ ws → lo ≤ i ∧ i < hq.size) → Inv b)
    (bt : Btw lo hq.size h h1) (sh : Shp hq h1) (s1 : SL h1 lo 102 10 p l c (us.map fun u => encI u.1.p u.1.l u.1.c u.2)) (i1 : Inv h1)
    (hk : ∀ h2 J, Btw lo hq.size h h2 → Shp hq h2 → Inv h2 → k [j0, J] K h2) : itemsT p l k [j0] K h1 := by
  unfold itemsT
  have hlen := o.len
  refine loop_of (cs := [(false, [.int .i64])]) (fun y m h' => ∃ (i : Nat) (xs : List (List Value)), y.1 = (i : Int) ∧ i ≤ l ∧ m = l - i ∧ Btw lo hq.size h h' ∧ Shp hq h' ∧ Inv h' ∧ SL h' lo 102 10 p l c xs ∧ ∀ j, i ≤ j → xs[j]? = (us.map fun u => encI u.1.p u.1.l u.1.c u.2)[j]?) ((0 : Int), ()) l rfl
    ⟨0, _, rfl, by omega, by omega, bt, sh, i1, s1, fun _ _ => rfl⟩ ?_
  clear s1 i1 bt sh
  rintro ⟨n16, ⟨⟩⟩ m h2 ⟨i, xs, hi, hil, rfl, bt, sh, iv, s, hxs⟩
  simp only at hi
  subst hi
  dsimp only [flat, unc, unc1, List.nil_append, List.cons_append]
  refine cond_mk (fun q => ?_) (fun q => hk h2 _ bt sh iv)
  have q := of_decide_eq_true q
  have hlt : i < us.length := by omega
  have hxl := s.1
  have hxi := hxs i (Nat.le_refl _)
  rw [List.getElem?_map, List.getElem?_eq_getElem hlt, List.getElem?_eq_getElem (by omega)] at hxi
  have hxi := Option.some.inj hxi
  have ot := o.own us[i] (List.getElem_mem hlt)
  have hob := fun j hj => (Ob.SL.blk o.sl j hj)
  generalize us[i] = u at hxi ot
  have otl : u.1.l = u.2.e.terms.length := by rw [ot.1, List.length_map]
  have hmany : u.1.l ≤ 9223372036854775807 := by
    cases hp : u.1.p with
    | none =>
      have h3 := ot.2.2
      rw [hp] at h3
      have h1 := ot.1
      rw [h3.2] at h1
      simp at h1
      omega
    | some a =>
      have h3 := ot.2.2
      rw [hp] at h3
      obtain ⟨g, pre, rest, _, _, hlc, _⟩ := h3
      omega
  refine loop_of (cs := [(false, [.int .i64])]) (fun y m h' => ∃ (t : Nat), y.1 = (t : Int) ∧ t ≤ u.1.l ∧ m = u.1.l - t ∧ Btw lo hq.size h h' ∧ Shp hq h' ∧ Inv h' ∧ SL h' lo 102 10 p l c xs) ((0 : Int), ()) u.1.l rfl
    ⟨0, rfl, by omega, by omega, bt, sh, iv, s⟩ ?_
  clear bt sh iv s
  rintro ⟨n17, ⟨⟩⟩ m h3 ⟨t, ht, htl, rfl, bt, sh, iv, s⟩
  simp only at ht
  subst ht
  dsimp only [flat, unc, unc1, List.nil_append, List.cons_append]
  obtain ⟨a, ha, hc⟩ := Sx.SL.cells s (i := i) (by omega)
  rw [hxi] at hc
  have hc7 : cellsAt h3 ((a.add (i * 10)).add 7) 0 [.slice u.1.p u.1.l u.1.c] := ⟨by rw [add_add]; exact hc.2.2.2.2.2.2.2.1, trivial⟩
  refine need_of ⟨by omega, by omega⟩ (osome_mk ha ?_)
  rw [show Int.toNat (i : Int) = i by omega]
  refine loads_of ((u.1.p, u.1.l, u.1.c), ()) hc7 ?_
  dsimp only [flat, unc, unc1, List.nil_append, List.cons_append]
  refine cond_mk (fun r => ?_) (fun r => ?_)
  · have r := of_decide_eq_true r
    refine need_of ⟨by omega, by omega⟩ (osome_mk ha ?_)
    refine loads_of ((u.1.p, u.1.l, u.1.c), ()) hc7 ?_
    dsimp only [flat, unc, unc1, List.nil_append, List.cons_append]
    have hp : ∃ b, u.1.p = some b := by
      cases hp : u.1.p with
      | none =>
        have h3 := ot.2.2
        rw [hp] at h3
        have h1 := ot.1
        rw [h3.2] at h1
        simp at h1
        omega
      | some b => exact ⟨b, rfl⟩
    obtain ⟨b, hb⟩ := hp
    refine need_of ⟨by omega, by omega⟩ (osome_mk hb ?_)
    rw [show Int.toNat (t : Int) = t by omega]
    refine spoilTerm ot bt sh (by omega) hb ?_
    intro h4 bt4 sh4 k4 hb4
    rw [wrap_i64 (by omega) (by omega)]
    refine again_mk (cs := [(false, [.int .i64])]) (((t + 1 : Nat) : Int), ()) (u.1.l - (t + 1)) rfl (by omega) rfl ?_
    exact ⟨t + 1, rfl, by omega, rfl, bt4, sh4, hInv _ _ _ iv k4 (fun i hi => .inr (hb4 i hi)) (fun i hi => Ob.SL.blk ot i hi), SL.keepU s k4 hb4 (by decide)⟩
  · refine need_of ⟨by omega, by omega⟩ (osome_mk ha ?_)
    refine SL.store (P := Tryz.prog) s (i := i) (vs := junkI) (by omega) rfl rfl ha ?_
    intro h4 s4 k4 z4
    rw [wrap_i64 (by omega) (by omega)]
    refine again_mk (cs := [(false, [.int .i64])]) (((i + 1 : Nat) : Int), ()) (l - (i + 1)) rfl (by omega) rfl ?_
    refine ⟨i + 1, xs.set i junkI, rfl, by omega, rfl, bt.step k4 (fun j hj _ => hob j hj), sh.keep k4 (fun j hj _ => ?_), hInv _ _ _ iv k4 (fun j hj => .inl hj) (fun j hj => hob j hj), s4, fun j hj => ?_⟩
    · obtain ⟨ys, hy⟩ := Ob.SL.boxU s j hj
      exact ⟨102, ys, hy, by decide⟩
    · rw [List.getElem?_set_ne (by omega)]
      exact hxs j (by omega)
end Go.Sx.Ob

set_option linter.unusedVariables false
set_option linter.unusedSimpArgs false
set_option maxRecDepth 100000
namespace Go.Sx.Ob
open Go.Proofs
theorem SL.keepI {a b : Hp} {ws : List Nat} {lo : Nat} {e : TypeId} {sz : Nat} {q : Option Addr} {l c : Nat} {xs : List (List Value)} {p : Option Addr} (s : SL a lo e sz q l c xs) (k : Ch ws a b) (hw : ∀ i, i ∈ ws → (i ∈ blkOf p ∨ ∃ ys, Box a i 104 ys)) (hap : ∀ i, i ∈ blkOf p → i ∉ blkOf q) (he : e ≠ 104) : SL b lo e sz q l c xs :=
  Sx.SL.keep' s k (fun i hi hm => by
    rcases hw i hm with h | ⟨ys, b2⟩
    · exact hap i h hi
    · obtain ⟨zs, b1⟩ := SL.boxU s i hi
      unfold Box at b1 b2
      rw [b1] at b2
      simp only [Option.some.injEq, Obj.cells.injEq] at b2
      exact he b2.2.1)
theorem apTy {h : Hp} {b b' : Nat} {e e' : TypeId} {sz sz' : Nat} {p q : Option Addr} {l c l' c' : Nat} {xs ys : List (List Value)} (s : SL h b e sz p l c xs) (t : SL h b' e' sz' q l' c' ys) (he : e ≠ e') : ∀ i, i ∈ blkOf p → i ∉ blkOf q := fun i h1 h2 => by
  obtain ⟨x1, b1⟩ := SL.boxU s i h1
  obtain ⟨x2, b2⟩ := SL.boxU t i h2
  unfold Box at b1 b2
  rw [b1] at b2
  simp only [Option.some.injEq, Obj.cells.injEq] at b2
  exact he b2.2.1
def spoilE (a1 : Addr) : T :=
  T.loop [(false, [.int .i64])] [.int .i64 (0 : Int)] <| fun (n12 : Int) =>
  T.loads (a1.add 2) [.slice 78] <| fun (p13 : Option Addr) (l14 : Nat) (l15 : Nat) =>
  cond (decide (n12 < (l14 : Int)))
   (T.loop [(false, [.int .i64])] [.int .i64 (0 : Int)] <| fun (n16 : Int) =>
   T.loads (a1.add 2) [.slice 78] <| fun (p17 : Option Addr) (l18 : Nat) (l19 : Nat) =>
   T.need (((0 : Int) ≤ n12) ∧ (n12 < (l18 : Int))) <|
   T.osome p17 <| fun (a20 : Addr) =>
   T.loads ((a20.add ((Int.toNat n12) * 3)).add 1) [.slice 104] <| fun (p21 : Option Addr) (l22 : Nat) (l23 : Nat) =>
   cond (decide (n16 < (l22 : Int)))
    (T.loads (a1.add 2) [.slice 78] <| fun (p24 : Option Addr) (l25 : Nat) (l26 : Nat) =>
    T.need (((0 : Int) ≤ n12) ∧ (n12 < (l25 : Int))) <|
    T.osome p24 <| fun (a27 : Addr) =>
    T.loads ((a27.add ((Int.toNat n12) * 3)).add 1) [.slice 104] <| fun (p28 : Option Addr) (l29 : Nat) (l30 : Nat) =>
    T.need (((0 : Int) ≤ n16) ∧ (n16 < (l29 : Int))) <|
    T.osome p28 <| fun (a31 : Addr) =>
    T.stores (a31.add ((Int.toNat n16) * 2)) [.string ⟨#[115, 112, 111, 105, 108, 116]⟩, .int .u32 (0 : Int)] <|
    T.again 2 [.int .i64 (IntKind.wrap .i64 (n16 + (1 : Int)))])
    (T.loads (a1.add 2) [.slice 78] <| fun (p24 : Option Addr) (l25 : Nat) (l26 : Nat) =>
    T.need (((0 : Int) ≤ n12) ∧ (n12 < (l25 : Int))) <|
    T.osome p24 <| fun (a27 : Addr) =>
    T.stores (a27.add ((Int.toNat n12) * 3)) [.string ⟨#[115, 112, 111, 105, 108, 116]⟩, .slice none 0 0, .int .u32 (0 : Int)] <|
    T.again 1 [.int .i64 (IntKind.wrap .i64 (n12 + (1 : Int)))]))
   (T.loop [(false, [.int .i64])] [.int .i64 (0 : Int)] <| fun (n16 : Int) =>
   T.loads (a1.add 3) [.slice 9] <| fun (p17 : Option Addr) (l18 : Nat) (l19 : Nat) =>
   cond (decide (n16 < (l18 : Int)))
    (T.loads (a1.add 3) [.slice 9] <| fun (p20 : Option Addr) (l21 : Nat) (l22 : Nat) =>
    T.need (((0 : Int) ≤ n16) ∧ (n16 < (l21 : Int))) <|
    T.osome p20 <| fun (a23 : Addr) =>
    T.stores (a23.add ((Int.toNat n16) * 1)) [.string ⟨#[115, 112, 111, 105, 108, 116]⟩] <|
    T.again 2 [.int .i64 (IntKind.wrap .i64 (n16 + (1 : Int)))])
    (T.ret (.tuple #[])))
def SpoilR (lo hi : Nat) (h : Hp) (w : Value) (h' : Hp) : Prop := w = .tuple #[] ∧ Btw lo hi h h'
theorem spoilE_of {j0 : List Value → Hp → Prop} {hq h h1 : Hp} {lo : Nat} {a b c d : Sli} {us : List (Sli × Eqn)} {gs : List (Sli × ByteArray)} (o : LsE hq lo c.p c.l c.c us) (og : LsS hq lo d.p d.l d.c gs) (hn : us.length ≤ 65535) (hg : gs.length ≤ 65535) (hlo : lo ≤ hq.size) (hqh : hq.size ≤ h.size)
    (bt : Btw lo hq.size h h1) (sh : Shp hq h1) (s1 : SL h1 lo 78 3 c.p c.l c.c (us.map fun u => encE u.1.p u.1.l u.1.c u.2)) (g1 : SL h1 lo 9 1 d.p d.l d.c (gs.map fun u => [.string u.2])) (ba : Box h1 h.size 28 [a.v, b.v, c.v, d.v]) :
    spoilE ⟨h.size, 0, none⟩ [j0] (SpoilR lo hq.size h) h1 := by
  unfold spoilE
  have hlen := o.len
  have hgl := og.len
  simp only [add_box]
  have hap := apTy o.sl og.sl (by decide)
  have hob := fun j hj => (Ob.SL.blk o.sl j hj)
  have hgb := fun j hj => (Ob.SL.blk og.sl j hj)
  refine loop_of (cs := [(false, [.int .i64])]) (fun y m h' => ∃ (i : Nat) (xs : List (List Value)), y.1 = (i : Int) ∧ i ≤ c.l ∧ m = c.l - i ∧ Btw lo hq.size h h' ∧ Shp hq h' ∧ SL h' lo 9 1 d.p d.l d.c (gs.map fun u => [.string u.2]) ∧ Box h' h.size 28 [a.v, b.v, c.v, d.v] ∧ SL h' lo 78 3 c.p c.l c.c xs ∧ ∀ j, i ≤ j → xs[j]? = (us.map fun u => encE u.1.p u.1.l u.1.c u.2)[j]?) ((0 : Int), ()) c.l rfl
    ⟨0, _, rfl, by omega, by omega, bt, sh, g1, ba, s1, fun _ _ => rfl⟩ ?_
  clear s1 g1 bt sh ba
  rintro ⟨n12, ⟨⟩⟩ m h2 ⟨i, xs, hi, hil, rfl, bt, sh, sg, ba, s, hxs⟩
  simp only at hi
  subst hi
  dsimp only [flat, unc, unc1, List.nil_append, List.cons_append]
  refine loads_box ba ((c.p, c.l, c.c), ()) rfl ?_
  dsimp only [flat, unc, unc1, List.nil_append, List.cons_append]
  refine cond_mk (fun q => ?_) (fun q => ?_)
  · have q := of_decide_eq_true q
    have hlt : i < us.length := by omega
    have hxl := s.1
    have hxi := hxs i (Nat.le_refl _)
    rw [List.getElem?_map, List.getElem?_eq_getElem hlt, List.getElem?_eq_getElem (by omega)] at hxi
    have hxi := Option.some.inj hxi
    have ot := o.own us[i] (List.getElem_mem hlt)
    generalize us[i] = u at hxi ot
    have hnone : u.1.p = none → u.1.l = 0 := fun hp => by
      have h3 := ot.2.2
      rw [hp] at h3
      have h1 := ot.1
      rw [h3.2] at h1
      exact h1
    have hmany : u.1.l ≤ 9223372036854775807 := by
      cases hp : u.1.p with
      | none => have := hnone hp; omega
      | some a =>
        have h3 := ot.2.2
        rw [hp] at h3
        obtain ⟨g, pre, rest, _, _, hlc, _⟩ := h3
        omega
    refine loop_of (cs := [(false, [.int .i64])]) (fun y m h' => ∃ (t : Nat), y.1 = (t : Int) ∧ t ≤ u.1.l ∧ m = u.1.l - t ∧ Btw lo hq.size h h' ∧ Shp hq h' ∧ SL h' lo 9 1 d.p d.l d.c (gs.map fun u => [.string u.2]) ∧ Box h' h.size 28 [a.v, b.v, c.v, d.v] ∧ SL h' lo 78 3 c.p c.l c.c xs) ((0 : Int), ()) u.1.l rfl
      ⟨0, rfl, by omega, by omega, bt, sh, sg, ba, s⟩ ?_
    clear bt sh sg ba s
    rintro ⟨n16, ⟨⟩⟩ m h3 ⟨t, ht, htl, rfl, bt, sh, sg, ba, s⟩
    simp only at ht
    subst ht
    dsimp only [flat, unc, unc1, List.nil_append, List.cons_append]
    refine loads_box ba ((c.p, c.l, c.c), ()) rfl ?_
    dsimp only [flat, unc, unc1, List.nil_append, List.cons_append]
    obtain ⟨aa, ha, hc⟩ := Sx.SL.cells s (i := i) (by omega)
    rw [hxi] at hc
    have hc1 : cellsAt h3 ((aa.add (i * 3)).add 1) 0 [.slice u.1.p u.1.l u.1.c] := ⟨by rw [add_add]; exact hc.2.1, trivial⟩
    refine need_of ⟨by omega, by omega⟩ (osome_mk ha ?_)
    rw [show Int.toNat (i : Int) = i by omega]
    refine loads_of ((u.1.p, u.1.l, u.1.c), ()) hc1 ?_
    dsimp only [flat, unc, unc1, List.nil_append, List.cons_append]
    refine cond_mk (fun r => ?_) (fun r => ?_)
    · have r := of_decide_eq_true r
      refine loads_box ba ((c.p, c.l, c.c), ()) rfl ?_
      dsimp only [flat, unc, unc1, List.nil_append, List.cons_append]
      refine need_of ⟨by omega, by omega⟩ (osome_mk ha ?_)
      refine loads_of ((u.1.p, u.1.l, u.1.c), ()) hc1 ?_
      dsimp only [flat, unc, unc1, List.nil_append, List.cons_append]
      have hp : ∃ b, u.1.p = some b := by
        cases hp : u.1.p with
        | none => have := hnone hp; omega
        | some b => exact ⟨b, rfl⟩
      obtain ⟨b, hb⟩ := hp
      refine need_of ⟨by omega, by omega⟩ (osome_mk hb ?_)
      rw [show Int.toNat (t : Int) = t by omega]
      refine spoilTerm ot bt sh (by omega) hb ?_
      intro h4 bt4 sh4 k4 hb4
      rw [wrap_i64 (by omega) (by omega)]
      refine again_mk (cs := [(false, [.int .i64])]) (((t + 1 : Nat) : Int), ()) (u.1.l - (t + 1)) rfl (by omega) rfl ?_
      exact ⟨t + 1, rfl, by omega, rfl, bt4, sh4, SL.keepU sg k4 hb4 (by decide), ba.keep k4 (fun hm => by have := (Ob.SL.blk ot _ hm).2; omega), SL.keepU s k4 hb4 (by decide)⟩
    · refine loads_box ba ((c.p, c.l, c.c), ()) rfl ?_
      dsimp only [flat, unc, unc1, List.nil_append, List.cons_append]
      refine need_of ⟨by omega, by omega⟩ (osome_mk ha ?_)
      refine SL.store (P := Tryz.prog) s (i := i) (vs := [.string ⟨#[115, 112, 111, 105, 108, 116]⟩, .slice none 0 0, .int .u32 (0 : Int)]) (by omega) rfl rfl ha ?_
      intro h4 s4 k4 z4
      rw [wrap_i64 (by omega) (by omega)]
      refine again_mk (cs := [(false, [.int .i64])]) (((i + 1 : Nat) : Int), ()) (c.l - (i + 1)) rfl (by omega) rfl ?_
      refine ⟨i + 1, _, rfl, by omega, rfl, bt.step k4 (fun j hj _ => hob j hj), sh.keep k4 (fun j hj _ => ?_), Sx.SL.keep' sg k4 (fun j hj hm => hap j hm hj), ba.keep k4 (fun hm => by have := (hob _ hm).2; omega), s4, fun j hj => ?_⟩
      · obtain ⟨ys, hy⟩ := Ob.SL.boxU s j hj
        exact ⟨78, ys, hy, by decide⟩
      · rw [List.getElem?_set_ne (by omega)]
        exact hxs j (by omega)
  · refine loop_of (cs := [(false, [.int .i64])]) (fun y m h' => ∃ (i : Nat) (ys : List (List Value)), y.1 = (i : Int) ∧ i ≤ d.l ∧ m = d.l - i ∧ Btw lo hq.size h h' ∧ Box h' h.size 28 [a.v, b.v, c.v, d.v] ∧ SL h' lo 9 1 d.p d.l d.c ys) ((0 : Int), ()) d.l rfl
      ⟨0, _, rfl, by omega, by omega, bt, ba, sg⟩ ?_
    clear bt sh sg ba s
    rintro ⟨n16, ⟨⟩⟩ m h3 ⟨t, ys, ht, htl, rfl, bt, ba, s⟩
    simp only at ht
    subst ht
    dsimp only [flat, unc, unc1, List.nil_append, List.cons_append]
    refine loads_box ba ((d.p, d.l, d.c), ()) rfl ?_
    dsimp only [flat, unc, unc1, List.nil_append, List.cons_append]
    refine cond_mk (fun r => ?_) (fun r => ⟨rfl, bt⟩)
    have r := of_decide_eq_true r
    refine loads_box ba ((d.p, d.l, d.c), ()) rfl ?_
    dsimp only [flat, unc, unc1, List.nil_append, List.cons_append]
    have hyl := s.1
    obtain ⟨aa, ha, hc⟩ := Sx.SL.cells s (i := t) (by omega)
    refine need_of ⟨by omega, by omega⟩ (osome_mk ha ?_)
    rw [show Int.toNat (t : Int) = t by omega]
    refine SL.store (P := Tryz.prog) s (i := t) (vs := [.string ⟨#[115, 112, 111, 105, 108, 116]⟩]) (by omega) rfl rfl ha ?_
    intro h4 s4 k4 z4
    rw [wrap_i64 (by omega) (by omega)]
    refine again_mk (cs := [(false, [.int .i64])]) (((t + 1 : Nat) : Int), ()) (d.l - (t + 1)) rfl (by omega) rfl ?_
    exact ⟨t + 1, _, rfl, by omega, rfl, bt.step k4 (fun j hj _ => hgb j hj), ba.keep k4 (fun hm => by have := (hgb _ hm).2; omega), s4⟩
theorem spoil_hc {hq h : Hp} {lo : Nat} {a b c d : Sli} {u : Unt} (o : UntOwn hq lo a b c d u) (ap : Apt a b) (e : Ext hq h) (hlo : lo ≤ hq.size) : HC Tryz.prog 16 #[untV a b c d] h (SpoilR lo hq.size h) := by
  refine hcr_of (args := [untV a b c d]) mixed Tryz.func16 (by kernel_rfl) (t_spandrelkeep_Spoil_eq a.p a.l a.c b.p b.l b.c c.p c.l c.c d.p d.l d.c) ?_
  unfold t_spandrelkeep_Spoil
  obtain ⟨⟨uT, _, nT, oT⟩, ⟨uD, _, nD, oD⟩, ⟨uE, _, nE, oE⟩, ⟨uG, _, nG, oG⟩⟩ := o
  have hqh := e.size
  refine newB ?_
  intro h1 b1 e1 z1
  have b1 : Box h1 h.size 28 [a.v, b.v, c.v, d.v] := b1
  rw [add_box]
  refine loads_box b1 ((a.p, a.l, a.c), ()) rfl ?_
  dsimp only [flat, unc, unc1, List.nil_append, List.cons_append]
  refine loads_box b1 ((b.p, b.l, b.c), ()) rfl ?_
  dsimp only [flat, unc, unc1, List.nil_append, List.cons_append]
  refine lit_of und75 slZ (by omega) (by omega) (fillU a.p a.l a.c b.p b.l b.c) ?_
  intro h2 b2 e2 z2
  have b2 : Box h2 h1.size 24 [a.v, b.v] := b2
  have b12 := b1.keep e2 (by simp)
  have e02 := (e.trans e1).trans e2
  have bt2 : Btw lo hq.size h h2 := (Btw.refl _ _ _).step (e1.trans e2) (by simp)
  have sh2 : Shp hq h2 := fun g cells bx => ⟨cells, bx.keep e02 (by simp), rfl⟩
  have sT := oT.sl.keep e02 (by simp)
  have sD := oD.sl.keep e02 (by simp)
  have sE := oE.sl.keep e02 (by simp)
  have sG := oG.sl.keep e02 (by simp)
  have aTE := apTy oT.sl oE.sl (by decide)
  have aTG := apTy oT.sl oG.sl (by decide)
  have aDE := apTy oD.sl oE.sl (by decide)
  have aDG := apTy oD.sl oG.sl (by decide)
  have hz1 := e1.size
  refine loop_of (cs := [(false, [.int .i64])]) (fun y m h' => ∃ k : Nat, y.1 = (k : Int) ∧ k ≤ 2 ∧ m = 2 - k ∧ Btw lo hq.size h h' ∧ Shp hq h' ∧ Box h' h.size 28 [a.v, b.v, c.v, d.v] ∧ Box h' h1.size 24 [a.v, b.v] ∧ (k = 0 → SL h' lo 102 10 a.p a.l a.c (uT.map fun u => encI u.1.p u.1.l u.1.c u.2)) ∧ (k ≤ 1 → SL h' lo 102 10 b.p b.l b.c (uD.map fun u => encI u.1.p u.1.l u.1.c u.2)) ∧
      SL h' lo 78 3 c.p c.l c.c (uE.map fun u => encE u.1.p u.1.l u.1.c u.2) ∧ SL h' lo 9 1 d.p d.l d.c (uG.map fun u => [.string u.2])) ((0 : Int), ()) 2 rfl
    ⟨0, rfl, by omega, by omega, bt2, sh2, b12, b2, fun _ => sT, fun _ => sD, sE, sG⟩ ?_
  clear bt2 sh2 b12 b2 sT sD sE sG
  rintro ⟨n11, ⟨⟩⟩ m h3 ⟨k, hk, hk2, rfl, bt, sh, ba, bb, sT, sD, sE, sG⟩
  simp only at hk
  subst hk
  dsimp only [flat, unc, unc1, List.nil_append, List.cons_append]
  refine cond_mk (fun q => ?_) (fun q => ?_)
  · have q := of_decide_eq_true q
    have hk : k = 0 ∨ k = 1 := by omega
    rcases hk with rfl | rfl
    · refine need_of ⟨by omega, by omega⟩ (osome_mk rfl ?_)
      rw [add_box]
      refine loads_box bb ((a.p, a.l, a.c), ()) rfl ?_
      refine itemsT_of (Inv := fun h' => Box h' h.size 28 [a.v, b.v, c.v, d.v] ∧ Box h' h1.size 24 [a.v, b.v] ∧ SL h' lo 102 10 b.p b.l b.c (uD.map fun u => encI u.1.p u.1.l u.1.c u.2) ∧ SL h' lo 78 3 c.p c.l c.c (uE.map fun u => encE u.1.p u.1.l u.1.c u.2) ∧ SL h' lo 9 1 d.p d.l d.c (uG.map fun u => [.string u.2]))
        oT nT hlo hqh ?_ bt sh (sT rfl) ⟨ba, bb, sD (by omega), sE, sG⟩ ?_
      · rintro x y ws ⟨i1, i2, i3, i4, i5⟩ kk hw hr
        exact ⟨i1.keep kk (fun hm => by have := hr _ hm; omega), i2.keep kk (fun hm => by have := hr _ hm; omega), SL.keepI i3 kk hw ap (by decide), SL.keepI i4 kk hw aTE (by decide), SL.keepI i5 kk hw aTG (by decide)⟩
      · rintro h4 J bt4 sh4 ⟨i1, i2, i3, i4, i5⟩
        refine again_mk (cs := [(false, [.int .i64])]) (((0 + 1 : Nat) : Int), ()) (2 - (0 + 1)) rfl (by omega) (by rw [wrap_i64 (by omega) (by omega)]; rfl) ?_
        exact ⟨0 + 1, rfl, by omega, rfl, bt4, sh4, i1, i2, fun h => by omega, fun _ => i3, i4, i5⟩
    · refine need_of ⟨by omega, by omega⟩ (osome_mk rfl ?_)
      rw [add_box]
      refine loads_box bb ((b.p, b.l, b.c), ()) rfl ?_
      refine itemsT_of (Inv := fun h' => Box h' h.size 28 [a.v, b.v, c.v, d.v] ∧ Box h' h1.size 24 [a.v, b.v] ∧ SL h' lo 78 3 c.p c.l c.c (uE.map fun u => encE u.1.p u.1.l u.1.c u.2) ∧ SL h' lo 9 1 d.p d.l d.c (uG.map fun u => [.string u.2]))
        oD nD hlo hqh ?_ bt sh (sD (by omega)) ⟨ba, bb, sE, sG⟩ ?_
      · rintro x y ws ⟨i1, i2, i4, i5⟩ kk hw hr
        exact ⟨i1.keep kk (fun hm => by have := hr _ hm; omega), i2.keep kk (fun hm => by have := hr _ hm; omega), SL.keepI i4 kk hw aDE (by decide), SL.keepI i5 kk hw aDG (by decide)⟩
      · rintro h4 J bt4 sh4 ⟨i1, i2, i4, i5⟩
        refine again_mk (cs := [(false, [.int .i64])]) (((1 + 1 : Nat) : Int), ()) (2 - (1 + 1)) rfl (by omega) (by rw [wrap_i64 (by omega) (by omega)]; rfl) ?_
        exact ⟨1 + 1, rfl, by omega, rfl, bt4, sh4, i1, i2, fun h => by omega, fun h => by omega, i4, i5⟩
  · exact spoilE_of oE oG nE nG hlo hqh bt sh sE sG ba
end Go.Sx.Ob

set_option linter.unusedVariables false
set_option linter.unusedSimpArgs false
set_option maxRecDepth 100000
namespace Go.Sx.Ob
open Go.Proofs
theorem SN.put {L : Lp} {K : Value → Hp → Prop} {h : Hp} {b : Nat} {p : Option Addr} {l c : Nat} {xs : List ByteArray} (v : SN h b p l c xs) {i : Nat} (hi : i < xs.length) (x : ByteArray) {a : Addr} (ha : p = some a) {k : T}
    (hk : ∀ h', SN h' b p l c (xs.set i x) → Ch (blkOf p) h h' → h'.size = h.size → k L K h') : T.stores (a.add (i * 1)) [.string x] k L K h := by
  refine SL.store (P := Tryz.prog) v (i := i) (vs := enN x) (by rw [List.length_map]; exact hi) rfl rfl ha ?_
  intro h' s' ch z
  refine hk h' ?_ ch z
  unfold SN
  rw [List.map_set]
  exact s'
theorem erase_shift (zs : List ByteArray) (j : Nat) (hj : 0 < j) (hl : j < zs.length) : (zs.set j (zs[j - 1]'(by omega))).eraseIdx (j - 1) = zs.eraseIdx j := by
  apply List.ext_getElem?
  intro k
  rw [List.getElem?_eraseIdx, List.getElem?_eraseIdx]
  by_cases h1 : k < j - 1
  · rw [if_pos h1, if_pos (by omega), List.getElem?_set_ne (by omega)]
  · rw [if_neg h1]
    by_cases h2 : k < j
    · have : k = j - 1 := by omega
      subst this
      rw [if_pos h2, show j - 1 + 1 = j by omega, List.getElem?_set_self hl, List.getElem?_eq_getElem (by omega)]
    · rw [if_neg h2, List.getElem?_set_ne (by omega)]
theorem inN_set (zs : List ByteArray) (j : Nat) (hl : j < zs.length) (x s : ByteArray) : inN (zs.set j x) s = (inN (zs.eraseIdx j) s || decide (x = s)) := by
  unfold inN
  rw [List.set_eq_take_append_cons_drop, if_pos hl, List.eraseIdx_eq_take_drop_succ]
  simp only [List.any_append, List.any_cons]
  cases List.any (zs.take j) (fun t => decide (t = s)) <;> cases List.any (zs.drop (j + 1)) (fun t => decide (t = s)) <;> cases decide (x = s) <;> rfl
theorem inN_iff {D : List ByteArray} {s : ByteArray} : inN D s = true ↔ s ∈ D := by
  unfold inN
  rw [List.any_eq_true]
  constructor
  · rintro ⟨t, ht, e⟩
    rw [← of_decide_eq_true e]
    exact ht
  · intro hs
    exact ⟨s, hs, decide_eq_true rfl⟩
theorem nodup_snoc (l : List ByteArray) (x : ByteArray) : (l ++ [x]).Nodup ↔ l.Nodup ∧ x ∉ l := by
  rw [List.nodup_append]
  constructor
  · rintro ⟨a, _, c⟩
    exact ⟨a, fun hx => c x hx x (by simp) rfl⟩
  · rintro ⟨a, b⟩
    refine ⟨a, by simp, fun y hy z hz e => ?_⟩
    rw [List.mem_singleton.1 hz] at e
    exact b (e ▸ hy)
theorem sorted_hc {h : Hp} {b : Nat} {p : Option Addr} {l c : Nat} {xs : List ByteArray} (v : SN h b p l c xs) (hm : xs.length ≤ 2 ^ 30) :
    HC Tryz.prog 46 #[.slice p l c] h fun w h' => ∃ p' c' ys, w = .slice p' (ys : List ByteArray).length c' ∧ ys.length ≤ xs.length ∧ (ys.length = xs.length ↔ xs.Nodup) ∧ Ext h h' := by
  refine hcr_of (args := [.slice p l c]) mixed Tryz.func46 (by kernel_rfl) (t_spandrelref9_Sorted_eq p l c) ?_
  unfold t_spandrelref9_Sorted
  have n := SN.len v
  refine loop_of (cs := [(false, [.slice 0]), (false, [.int .i64])]) (fun y m h' => ∃ (i : Nat) (ys : List ByteArray), y.2.1 = (i : Int) ∧ m = xs.length - i ∧ i ≤ xs.length ∧ Ext h h' ∧ SN h' h.size y.1.1 y.1.2.1 y.1.2.2 ys ∧ ys.length ≤ i ∧ (∀ s, inN ys s = inN (xs.take i) s) ∧ (ys.length = i ↔ (xs.take i).Nodup)) ((none, 0, 0), (0 : Int), ()) xs.length rfl
    ⟨0, [], rfl, rfl, by omega, Ch.refl _ _, SL.nil _ _ _ _, by simp, fun s => rfl, by simp⟩ ?_
  rintro ⟨⟨p1, l2, l3⟩, n4, ⟨⟩⟩ m h1 ⟨i, ys, hi, rfl, hle, e1, s, hyl, hin, hnd⟩
  simp only at hi s
  subst hi
  dsimp only [flat, unc, unc1, List.nil_append, List.cons_append]
  have hz := e1.size
  have ny := SN.len s
  refine cond_mk (fun q => ?_) (fun q => ?_)
  · have q := of_decide_eq_true q
    have hil : i < xs.length := by omega
    have hx : ∀ {g}, Ext h g → ∃ a, p = some a ∧ cellsAt g (a.add (i * 1)) 0 [.string xs[i]] := by
      intro g e
      obtain ⟨a, ha, hc⟩ := SN.cell v hil
      exact ⟨a, ha, cellsAt_keep e (by simp) _ _ hc⟩
    have htk : xs.take (i + 1) = xs.take i ++ [xs[i]] := List.take_succ_eq_append_getElem hil
    generalize hxv : xs[i] = x at hx htk
    obtain ⟨a, ha, hc⟩ := hx e1
    refine need_of ⟨by omega, by omega⟩ (osome_mk ha ?_)
    rw [show Int.toNat (i : Int) = i by omega]
    refine loads_of (x, ()) hc ?_
    dsimp only [flat, unc, unc1, List.nil_append, List.cons_append]
    refine call_bool (has_hc s (by omega) x) ?_
    rw [hin]
    have hinx : inN (xs.take i) x = true ↔ x ∈ xs.take i := inN_iff
    refine cond_mk (fun r => ?_) (fun r => ?_)
    · have r2 := hinx.1 r
      refine again_mk (cs := [(false, [.slice 0]), (false, [.int .i64])]) ((p1, l2, l3), ((i + 1 : Nat) : Int), ()) (xs.length - (i + 1)) rfl (by omega) (by rw [wrap_i64 (by omega) (by omega)]; rfl) ?_
      refine ⟨i + 1, ys, rfl, rfl, by omega, e1, s, by omega, fun t => ?_, ?_⟩
      · rw [hin, htk]
        by_cases e : x = t
        · subst e
          rw [r]
          exact (inN_iff.2 (List.mem_append.2 (.inl r2))).symm
        · unfold inN
          rw [List.any_append]
          simp [e]
      · rw [htk, nodup_snoc]
        exact ⟨fun k => by omega, fun k => absurd r2 k.2⟩
    · have r2 : x ∉ xs.take i := fun k => by rw [hinx.2 k] at r; cases r
      refine need_of ⟨by omega, by omega⟩ (osome_mk ha ?_)
      refine loads_of (x, ()) hc ?_
      dsimp only [flat, unc, unc1, List.nil_append, List.cons_append]
      refine SN.push s x (by omega) hz ?_
      intro p' c' h2 s2 k2
      have e2 := SN.ext e1 s (Nat.le_refl _) k2
      refine loop_of (cs := [(false, [.int .i64])]) (fun y m h' => ∃ (j : Nat) (zs : List ByteArray), y.1 = (j : Int) ∧ m = j ∧ j ≤ ys.length ∧ zs.length = ys.length + 1 ∧ zs.eraseIdx j = ys ∧ Ext h h' ∧ SN h' h.size p' (l2 + 1) c' zs) ((l2 : Int), ()) ys.length rfl
        ⟨ys.length, ys ++ [x], by rw [ny], rfl, by omega, by simp, by rw [List.eraseIdx_append_of_length_le (by omega)]; simp, e2, s2⟩ ?_
      rintro ⟨n16, ⟨⟩⟩ m h3 ⟨j, zs, hj, rfl, hjl, hzl, hze, e3, s3⟩
      simp only at hj
      subst hj
      dsimp only [flat, unc, unc1, List.nil_append, List.cons_append]
      have hpl : ∃ a2, p' = some a2 := by
        obtain ⟨a2, h2, _⟩ := SN.cell s3 (i := 0) (by omega)
        exact ⟨a2, h2⟩
      obtain ⟨a2, ha2⟩ := hpl
      have last : (T.need (((0 : Int) ≤ (i : Int)) ∧ ((i : Int) < (l : Int))) <|
         T.osome p fun (a21 : Addr) =>
         T.loads (a21.add ((Int.toNat (i : Int)) * 1)) [.string] <| fun (s22 : ByteArray) =>
         T.need (((0 : Int) ≤ (m : Int)) ∧ ((m : Int) < ((l2 + 1 : Nat) : Int))) <|
         T.osome p' fun (a23 : Addr) =>
         T.stores (a23.add ((Int.toNat (m : Int)) * 1)) [.string s22] <|
         T.again 0 [.slice p' (l2 + 1) c', .int .i64 (IntKind.wrap .i64 ((i : Int) + (1 : Int)))])
         ([] ++ [Jl (cs := [(false, [.slice 0]), (false, [.int .i64])]) (fun y m h' => ∃ (i : Nat) (ys : List ByteArray), y.2.1 = (i : Int) ∧ m = xs.length - i ∧ i ≤ xs.length ∧ Ext h h' ∧ SN h' h.size y.1.1 y.1.2.1 y.1.2.2 ys ∧ ys.length ≤ i ∧ (∀ s, inN ys s = inN (xs.take i) s) ∧ (ys.length = i ↔ (xs.take i).Nodup)) (xs.length - i)] ++
          [Jl (cs := [(false, [.int .i64])]) (fun y m h' => ∃ (j : Nat) (zs : List ByteArray), y.1 = (j : Int) ∧ m = j ∧ j ≤ ys.length ∧ zs.length = ys.length + 1 ∧ zs.eraseIdx j = ys ∧ Ext h h' ∧ SN h' h.size p' (l2 + 1) c' zs) m])
         (fun w h' => ∃ p' c' ys, w = .slice p' (ys : List ByteArray).length c' ∧ ys.length ≤ xs.length ∧ (ys.length = xs.length ↔ xs.Nodup) ∧ Ext h h') h3 := by
        obtain ⟨a, ha, hc⟩ := hx e3
        refine need_of ⟨by omega, by omega⟩ (osome_mk ha ?_)
        rw [show Int.toNat (i : Int) = i by omega]
        refine loads_of (x, ()) hc ?_
        dsimp only [flat, unc, unc1, List.nil_append, List.cons_append]
        refine need_of ⟨by omega, by omega⟩ (osome_mk ha2 ?_)
        rw [show Int.toNat (m : Int) = m by omega]
        refine SN.put s3 (by omega) x ha2 ?_
        intro h4 s4 k4 z4
        refine again_mk (cs := [(false, [.slice 0]), (false, [.int .i64])]) ((p', l2 + 1, c'), ((i + 1 : Nat) : Int), ()) (xs.length - (i + 1)) rfl (by omega) (by rw [wrap_i64 (by omega) (by omega)]; rfl) ?_
        refine ⟨i + 1, zs.set m x, rfl, rfl, by omega, SN.ext e3 s3 (Nat.le_refl _) k4, s4, by rw [List.length_set]; omega, fun t => ?_, ?_⟩
        · rw [inN_set zs m (by omega), hze, hin, htk]
          unfold inN
          rw [List.any_append]
          simp
        · rw [List.length_set, htk, nodup_snoc, ← hnd, hzl]
          exact ⟨fun k => ⟨by omega, r2⟩, fun k => by omega⟩
      refine cond_mk (fun q2 => ?_) (fun q2 => last)
      have q2 := of_decide_eq_true q2
      rw [wrap_i64 (by omega) (by omega)]
      obtain ⟨a3, ha3, hc3⟩ := SN.cell s3 (i := m - 1) (by omega)
      refine need_of ⟨by omega, by omega⟩ (osome_mk ha3 ?_)
      rw [show Int.toNat ((m : Int) - 1) = m - 1 by omega]
      refine loads_of (zs[m - 1]'(by omega), ()) hc3 ?_
      dsimp only [flat, unc, unc1, List.nil_append, List.cons_append]
      obtain ⟨a, ha, hc⟩ := hx e3
      refine need_of ⟨by omega, by omega⟩ (osome_mk ha ?_)
      refine loads_of (x, ()) hc ?_
      dsimp only [flat, unc, unc1, List.nil_append, List.cons_append]
      refine cond_mk (fun q3 => ?_) (fun q3 => ?_)
      · refine need_of ⟨by omega, by omega⟩ (osome_mk ha3 ?_)
        refine loads_of (zs[m - 1]'(by omega), ()) hc3 ?_
        dsimp only [flat, unc, unc1, List.nil_append, List.cons_append]
        refine need_of ⟨by omega, by omega⟩ (osome_mk ha2 ?_)
        rw [show Int.toNat (m : Int) = m by omega]
        refine SN.put s3 (by omega) _ ha2 ?_
        intro h4 s4 k4 z4
        refine again_mk (cs := [(false, [.int .i64])]) (((m - 1 : Nat) : Int), ()) (m - 1) rfl (by omega) (by rw [show (m : Int) - 1 = ((m - 1 : Nat) : Int) by omega]; rfl) ?_
        exact ⟨m - 1, _, rfl, rfl, by omega, by rw [List.length_set]; exact hzl, by rw [erase_shift zs m (by omega) (by omega)]; exact hze, SN.ext e3 s3 (Nat.le_refl _) k4, s4⟩
      · have := last
        rw [show Int.toNat (i : Int) = i by omega] at this
        exact this
  · have q := of_decide_eq_false q
    have : i = xs.length := by omega
    subst this
    rw [List.take_length] at hnd
    exact ⟨p1, l3, ys, by rw [ny], hyl, hnd, e1⟩
end Go.Sx.Ob

set_option linter.unusedVariables false
set_option linter.unusedSimpArgs false
set_option maxRecDepth 100000
namespace Go.Sx.Ob
def equ2 (e : Eqn) : Bool := legalL e.1.data.toList && rtR none e.2.terms
def untOk2 (u : Unt) : Bool := u.text.all (fun x => itmR x 0) && (u.data.all (fun x => itmR x 1) && (u.equs.all equ2 && (decide (allN u).Nodup && globsOk (allN u) nam0 u.globs)))
theorem labs_cons (x : Itm) (l : List Itm) : labs (x :: l) = (if x.kind = 1 then [x.name] else []) ++ labs l := by
  unfold labs
  by_cases h : x.kind = 1 <;> simp [h]
theorem addN_mem (D : List ByteArray) (x : Itm) (s : ByteArray) : s ∈ addN D x ↔ s ∈ D ∨ s ∈ (if x.kind = 1 then [x.name] else []) := by
  unfold addN
  split <;> simp [or_comm]
theorem itemsOk_iff (sec : Nat) : ∀ (l : List Itm) (D : List ByteArray), itemsOk sec D l = true ↔ (∀ x, x ∈ l → itmR x sec = true) ∧ (∀ s, s ∈ labs l → s ∉ D) ∧ (labs l).Nodup
  | [], D => by simp [itemsOk, labs]
  | x :: l, D => by
    rw [itemsOk, Bool.and_eq_true, itemsOk_iff sec l, labs_cons]
    unfold itmOk
    rw [Bool.and_eq_true, List.nodup_append]
    by_cases h : x.kind = 1
    · simp only [h, decide_true, Bool.true_and, if_true, Bool.not_eq_true', List.mem_cons, List.mem_append, List.mem_singleton, List.not_mem_nil, or_false]
      have hin : inN D x.name = false ↔ x.name ∉ D := by
        rw [← Bool.not_eq_true, inN_iff]
      rw [hin]
      have ha : ∀ s, s ∈ addN D x ↔ s = x.name ∨ s ∈ D := fun s => by
        rw [addN_mem, if_pos h]
        simp [or_comm]
      simp only [ha]
      constructor
      · rintro ⟨⟨a, b⟩, c, d, e⟩
        refine ⟨?_, ?_, ?_, e, ?_⟩
        · rintro y (rfl | hy)
          · exact a
          · exact c y hy
        · rintro s (rfl | hs)
          · exact b
          · exact fun k => d s hs (.inr k)
        · simp
        · intro y hy z hz hyz
          exact d z hz (.inl (hyz ▸ hy))
      · rintro ⟨a, b, c, d, e⟩
        refine ⟨⟨a x (.inl rfl), b _ (.inl rfl)⟩, fun y hy => a y (.inr hy), fun s hs k => ?_, d⟩
        rcases k with rfl | k
        · exact e _ rfl _ hs rfl
        · exact b s (.inr hs) k
    · have ha : addN D x = D := by unfold addN; rw [if_neg h]
      simp only [h, decide_false, Bool.false_and, if_false, Bool.not_false, and_true, List.mem_cons, List.nil_append, ha]
      constructor
      · rintro ⟨a, c, d, e⟩
        refine ⟨?_, d, by simp, e, by simp⟩
        rintro y (rfl | hy)
        · exact a
        · exact c y hy
      · rintro ⟨a, b, _, d, _⟩
        exact ⟨a x (.inl rfl), fun y hy => a y (.inr hy), b, d⟩
theorem equsOk_iff : ∀ (l : List Eqn) (D : List ByteArray), equsOk D l = true ↔ (∀ x, x ∈ l → equ2 x = true) ∧ (∀ s, s ∈ l.map (·.1) → s ∉ D) ∧ (l.map (·.1)).Nodup
  | [], D => by simp [equsOk]
  | x :: l, D => by
    rw [equsOk, Bool.and_eq_true, equsOk_iff l, List.map_cons, List.nodup_cons]
    have hok : equOk D x = true ↔ x.1 ∉ D ∧ equ2 x = true := by
      unfold equOk equ2
      rw [Bool.and_eq_true, Bool.and_eq_true, Bool.and_eq_true, Bool.not_eq_true', ← Bool.not_eq_true, inN_iff, and_assoc]
    rw [hok]
    simp only [List.mem_cons]
    constructor
    · rintro ⟨⟨a, b⟩, c, d, e⟩
      refine ⟨?_, ?_, ?_, e⟩
      · rintro y (rfl | hy)
        · exact b
        · exact c y hy
      · rintro s (rfl | hs)
        · exact a
        · exact fun k => d s hs (.inr k)
      · exact fun hs => d _ hs (.inl rfl)
    · rintro ⟨a, b, c, d⟩
      refine ⟨⟨b _ (.inl rfl), a x (.inl rfl)⟩, fun y hy => a y (.inr hy), fun s hs k => ?_, d⟩
      rcases k with rfl | k
      · exact c hs
      · exact b s (.inr hs) k
theorem namesI_mem : ∀ (l : List Itm) (D : List ByteArray) (s : ByteArray), s ∈ namesI D l ↔ s ∈ D ∨ s ∈ labs l
  | [], D, s => by simp [namesI, labs]
  | x :: l, D, s => by
    show s ∈ namesI (addN D x) l ↔ _
    rw [namesI_mem l, addN_mem, labs_cons, List.mem_append, or_assoc]
theorem namesE_mem : ∀ (l : List Eqn) (D : List ByteArray) (s : ByteArray), s ∈ namesE D l ↔ s ∈ D ∨ s ∈ l.map (·.1)
  | [], D, s => by simp [namesE]
  | x :: l, D, s => by
    show s ∈ namesE (x.1 :: D) l ↔ _
    rw [namesE_mem l, List.map_cons, List.mem_cons, List.mem_cons, ← or_assoc, or_comm (a := s = x.1)]
theorem inN_congr {D E : List ByteArray} (h : ∀ s, s ∈ D ↔ s ∈ E) (s : ByteArray) : inN D s = inN E s := by
  have : inN D s = true ↔ inN E s = true := by rw [inN_iff, inN_iff]; exact h s
  exact Bool.eq_iff_iff.2 this
theorem globsOk_congr {D E : List ByteArray} (h : ∀ s, s ∈ D ↔ s ∈ E) : ∀ (l : List ByteArray) (o : ByteArray), globsOk D o l = globsOk E o l
  | [], o => rfl
  | x :: l, o => by
    rw [globsOk, globsOk, globsOk_congr h l, gOk, gOk, inN_congr h]
theorem untOk_two (u : Unt) : untOk u = untOk2 u := by
  have hg : globsOk u.names nam0 u.globs = globsOk (allN u) nam0 u.globs := by
    refine globsOk_congr (fun s => ?_) _ _
    unfold Unt.names allN
    rw [namesE_mem, namesI_mem, namesI_mem]
    simp [or_assoc]
  rw [Bool.eq_iff_iff]
  unfold untOk untOk2
  rw [Bool.and_eq_true, Bool.and_eq_true, Bool.and_eq_true, Bool.and_eq_true, Bool.and_eq_true, Bool.and_eq_true, Bool.and_eq_true, itemsOk_iff, itemsOk_iff, equsOk_iff, hg, List.all_eq_true, List.all_eq_true, List.all_eq_true, decide_eq_true_iff]
  unfold allN
  rw [List.nodup_append, List.nodup_append]
  have e1 : ∀ s, s ∈ namesI [] u.text ↔ s ∈ labs u.text := fun s => by rw [namesI_mem]; simp
  have e2 : ∀ s, s ∈ namesI (namesI [] u.text) u.data ↔ s ∈ labs u.text ∨ s ∈ labs u.data := fun s => by rw [namesI_mem, e1]
  simp only [e1, e2, List.mem_append]
  constructor
  · rintro ⟨⟨⟨⟨a1, a2, a3⟩, b1, b2, b3⟩, c1, c2, c3⟩, g⟩
    refine ⟨a1, b1, c1, ⟨⟨a3, b3, fun x hx y hy e => b2 y hy (e ▸ hx)⟩, c3, fun x hx y hy e => c2 y hy (e ▸ hx)⟩, g⟩
  · rintro ⟨a1, b1, c1, ⟨⟨a3, b3, d⟩, c3, f⟩, g⟩
    exact ⟨⟨⟨⟨a1, fun s _ => by simp, a3⟩, b1, fun s hs k => d s k s hs rfl, b3⟩, c1, fun s hs k => f s k s hs rfl, c3⟩, g⟩
theorem all_step {α : Type} (f : α → Bool) (l : List α) {i : Nat} (hi : i < l.length) : (l.drop i).all f = (f l[i] && (l.drop (i + 1)).all f) := by
  rw [List.drop_eq_getElem_cons hi, List.all_cons]
end Go.Sx.Ob

set_option linter.unusedVariables false
set_option linter.unusedSimpArgs false
set_option maxRecDepth 100000
namespace Go.Sx.Ob
open Go.Proofs
theorem linW {h : Hp} {p : Option Addr} {l : Nat} {x : Lin} (v : LinAt h p l x) : VwT h p l x.terms ∧ x.terms.length ≤ 9223372036854775807 ∧ ∀ t, t ∈ x.terms → t.1.size ≤ maxLen := ⟨v.vw, by have := v.many; omega, v.names⟩
def Legs (D : List ByteArray) : Prop := ∀ g, g ∈ D → legalL g.data.toList = true
theorem Legs.snoc {D E : List ByteArray} (h : Legs D) (k : Legs E) : Legs (D ++ E) := fun g hg => (List.mem_append.1 hg).elim (h g) (k g)
theorem Legs.item {x : Itm} {sec : Nat} (r : itmR x sec = true) : Legs (if x.kind = 1 then [x.name] else []) := by
  intro g hg
  split at hg
  · rename_i r1
    rw [List.mem_singleton.1 hg]
    rw [itmR_1 r1, Bool.and_eq_true] at r
    exact r.1
  · simp at hg
theorem right9_hc {h : Hp} {a b c d : Sli} {u : Unt} (v : UntAt h a b c d u) : HC Tryz.prog 17 #[untV a b c d] h fun w h' => w = .int .i64 (untR u : Nat) ∧ Ext h h' := by
  refine hcr_of (args := [untV a b c d]) mixed Tryz.func17 (by kernel_rfl) (t_spandrelref9_Right_eq a.p a.l a.c b.p b.l b.c c.p c.l c.c d.p d.l d.c) ?_
  unfold t_spandrelref9_Right
  refine newB ?_
  intro g1 b1 e1 z1
  have b1 : Box g1 h.size 28 [a.v, b.v, c.v, d.v] := b1
  have m1 := v.text.many
  have m2 := v.data.many
  have m3 := v.equs.many
  have m4 := v.globs.many
  have n1 := v.text.len
  have n2 := v.data.len
  have n3 := v.equs.len
  have n4 := v.globs.len
  simp only [add_box]
  refine loads_box b1 ((a.p, a.l, a.c), ()) rfl ?_
  dsimp only [flat, unc, unc1, List.nil_append, List.cons_append]
  refine loads_box b1 ((b.p, b.l, b.c), ()) rfl ?_
  dsimp only [flat, unc, unc1, List.nil_append, List.cons_append]
  rw [wrap_i64 (by omega) (by omega)]
  unfold untR untMany
  refine cond_mk (fun q => ?_) (fun q => ?_)
  · have q := of_decide_eq_true q
    exact ⟨by rw [decide_eq_true (show 8192 < u.text.length + u.data.length by omega)]; rfl, e1⟩
  have q := of_decide_eq_false q
  rw [decide_eq_false (show ¬ 8192 < u.text.length + u.data.length by omega), Bool.false_or]
  refine loads_box b1 ((c.p, c.l, c.c), ()) rfl ?_
  dsimp only [flat, unc, unc1, List.nil_append, List.cons_append]
  refine cond_mk (fun q => ?_) (fun q => ?_)
  · have q := of_decide_eq_true q
    exact ⟨by rw [decide_eq_true (show 8192 < u.equs.length by omega)]; rfl, e1⟩
  have q := of_decide_eq_false q
  rw [decide_eq_false (show ¬ 8192 < u.equs.length by omega), if_neg (by simp), untOk_two]
  generalize hU : untOk2 u = U
  unfold untOk2 at hU
  -- the text
  refine loop_of (cs := [(false, [.int .i64]), (false, [.int .i64])]) (fun y w h' => ∃ i : Nat, y.2.1 = (i : Int) ∧ w = u.text.length - i ∧ i ≤ u.text.length ∧ Ext h h' ∧ Box h' h.size 28 [a.v, b.v, c.v, d.v] ∧ Legs (labs (u.text.take i)) ∧ ((u.text.drop i).all (fun x => itmR x 0) && (u.data.all (fun x => itmR x 1) && (u.equs.all equ2 && (decide (allN u).Nodup && globsOk (allN u) nam0 u.globs)))) = U) ((0 : Int), (0 : Int), ()) u.text.length rfl
    ⟨0, rfl, rfl, by omega, e1, b1, fun g hg => by simp [labs] at hg, hU⟩ ?_
  clear hU
  rintro ⟨n21, n22, ⟨⟩⟩ w h2 ⟨i, hi, rfl, hle, e2, b2, hg1, hu⟩
  simp only at hi
  subst hi
  dsimp only [flat, unc, unc1, List.nil_append, List.cons_append]
  refine loads_box b2 ((a.p, a.l, a.c), ()) rfl ?_
  dsimp only [flat, unc, unc1, List.nil_append, List.cons_append]
  refine cond_mk ?_ ?_
  case _ =>
    intro q
    have q := of_decide_eq_true q
    have hil : i < u.text.length := by omega
    refine loads_box b2 ((a.p, a.l, a.c), ()) rfl ?_
    dsimp only [flat, unc, unc1, List.nil_append, List.cons_append]
    obtain ⟨aa, pp, ll, cc, rfl', hc, va⟩ := (v.text.keep e2).cells i hil
    rw [all_step _ _ hil] at hu
    have ht := labs_take u.text i hil
    generalize u.text[i] = x at hc va hu ht
    refine need_of ⟨by omega, by omega⟩ (osome_mk rfl' ?_)
    rw [show Int.toNat (i : Int) = i by omega]
    refine loads_of (x.kind, x.name, x.inst.op, x.inst.a, x.inst.b, x.inst.n, x.inst.form, (pp, ll, cc), (x.e.num : Int), x.n, ()) hc ?_
    dsimp only [flat, unc, unc1, List.nil_append, List.cons_append]
    refine call_of (rightR_hc (c := cc) (k := 0) va (by omega)) ?_
    rintro _ h3 ⟨rfl, e3⟩
    refine ⟨((if itmR x 0 then 0 else 31 : Int), ()), rfl, ?_⟩
    dsimp only [flat, unc, unc1, List.nil_append, List.cons_append]
    cases hr : itmR x 0 with
    | false =>
      refine cond_t (by simp) ?_
      refine ⟨by rw [← hu, hr]; rfl, e2.trans e3⟩
    | true =>
      refine cond_f (by simp) ?_
      rw [hr, Bool.true_and] at hu
      refine again_mk (cs := [(false, [.int .i64]), (false, [.int .i64])]) (n21, ((i + 1 : Nat) : Int), ()) (u.text.length - (i + 1)) rfl (by omega) (by rw [wrap_i64 (by omega) (by omega)]; rfl) ?_
      exact ⟨i + 1, rfl, rfl, by omega, e2.trans e3, b2.keep e3 (by simp), by rw [ht]; exact hg1.snoc (Legs.item hr), hu⟩
  intro q
  have q := of_decide_eq_false q
  have : i = u.text.length := by omega
  subst this
  rw [List.drop_length, List.all_nil, Bool.true_and] at hu
  rw [List.take_length] at hg1
  clear e1 b1
  -- the data
  refine loop_of (cs := [(false, [.int .i64]), (false, [.int .i64])]) (fun y w h' => ∃ i : Nat, y.2.1 = (i : Int) ∧ w = u.data.length - i ∧ i ≤ u.data.length ∧ Ext h h' ∧ Box h' h.size 28 [a.v, b.v, c.v, d.v] ∧ Legs (labs (u.data.take i)) ∧ ((u.data.drop i).all (fun x => itmR x 1) && (u.equs.all equ2 && (decide (allN u).Nodup && globsOk (allN u) nam0 u.globs))) = U) (n21, (0 : Int), ()) u.data.length rfl
    ⟨0, rfl, rfl, by omega, e2, b2, fun g hg => by simp [labs] at hg, hu⟩ ?_
  clear hu e2 b2
  rintro ⟨n31, n32, ⟨⟩⟩ w h4 ⟨i, hi, rfl, hle, e2, b2, hg2, hu⟩
  simp only at hi
  subst hi
  dsimp only [flat, unc, unc1, List.nil_append, List.cons_append]
  refine loads_box b2 ((b.p, b.l, b.c), ()) rfl ?_
  dsimp only [flat, unc, unc1, List.nil_append, List.cons_append]
  refine cond_mk ?_ ?_
  case _ =>
    intro q
    have q := of_decide_eq_true q
    have hil : i < u.data.length := by omega
    refine loads_box b2 ((b.p, b.l, b.c), ()) rfl ?_
    dsimp only [flat, unc, unc1, List.nil_append, List.cons_append]
    obtain ⟨aa, pp, ll, cc, rfl', hc, va⟩ := (v.data.keep e2).cells i hil
    rw [all_step _ _ hil] at hu
    have ht := labs_take u.data i hil
    generalize u.data[i] = x at hc va hu ht
    refine need_of ⟨by omega, by omega⟩ (osome_mk rfl' ?_)
    rw [show Int.toNat (i : Int) = i by omega]
    refine loads_of (x.kind, x.name, x.inst.op, x.inst.a, x.inst.b, x.inst.n, x.inst.form, (pp, ll, cc), (x.e.num : Int), x.n, ()) hc ?_
    dsimp only [flat, unc, unc1, List.nil_append, List.cons_append]
    refine call_of (rightR_hc (c := cc) (k := 1) va (by omega)) ?_
    rintro _ h3 ⟨rfl, e3⟩
    refine ⟨((if itmR x 1 then 0 else 31 : Int), ()), rfl, ?_⟩
    dsimp only [flat, unc, unc1, List.nil_append, List.cons_append]
    cases hr : itmR x 1 with
    | false =>
      refine cond_t (by simp) ?_
      refine ⟨by rw [← hu, hr]; rfl, e2.trans e3⟩
    | true =>
      refine cond_f (by simp) ?_
      rw [hr, Bool.true_and] at hu
      refine again_mk (cs := [(false, [.int .i64]), (false, [.int .i64])]) (n31, ((i + 1 : Nat) : Int), ()) (u.data.length - (i + 1)) rfl (by omega) (by rw [wrap_i64 (by omega) (by omega)]; rfl) ?_
      exact ⟨i + 1, rfl, rfl, by omega, e2.trans e3, b2.keep e3 (by simp), by rw [ht]; exact hg2.snoc (Legs.item hr), hu⟩
  intro q
  have q := of_decide_eq_false q
  have : i = u.data.length := by omega
  subst this
  rw [List.drop_length, List.all_nil, Bool.true_and] at hu
  rw [List.take_length] at hg2
  -- the equs
  refine loop_of (cs := [(false, [.int .i64]), (false, [.int .i64])]) (fun y w h' => ∃ i : Nat, y.2.1 = (i : Int) ∧ w = u.equs.length - i ∧ i ≤ u.equs.length ∧ Ext h h' ∧ Box h' h.size 28 [a.v, b.v, c.v, d.v] ∧ Legs ((u.equs.take i).map (·.1)) ∧ ((u.equs.drop i).all equ2 && (decide (allN u).Nodup && globsOk (allN u) nam0 u.globs)) = U) (n31, (0 : Int), ()) u.equs.length rfl
    ⟨0, rfl, rfl, by omega, e2, b2, fun g hg => by simp at hg, hu⟩ ?_
  clear hu e2 b2
  rintro ⟨n41, n42, ⟨⟩⟩ w h4 ⟨i, hi, rfl, hle, e2, b2, hg3, hu⟩
  simp only at hi
  subst hi
  dsimp only [flat, unc, unc1, List.nil_append, List.cons_append]
  refine loads_box b2 ((c.p, c.l, c.c), ()) rfl ?_
  dsimp only [flat, unc, unc1, List.nil_append, List.cons_append]
  refine cond_mk ?_ ?_
  case _ =>
    intro q
    have q := of_decide_eq_true q
    have hil : i < u.equs.length := by omega
    refine loads_box b2 ((c.p, c.l, c.c), ()) rfl ?_
    dsimp only [flat, unc, unc1, List.nil_append, List.cons_append]
    obtain ⟨aa, pp, ll, cc, rfl', hc, va, vn⟩ := (v.equs.keep e2).cells i hil
    rw [all_step _ _ hil] at hu
    have ht : (u.equs.take (i + 1)).map (·.1) = (u.equs.take i).map (·.1) ++ [u.equs[i].1] := by rw [List.take_succ_eq_append_getElem hil, List.map_append]; rfl
    generalize u.equs[i] = x at hc va vn hu ht
    unfold equ2 at hu
    refine need_of ⟨by omega, by omega⟩ (osome_mk rfl' ?_)
    rw [show Int.toNat (i : Int) = i by omega]
    refine loads_of (x.1, ()) ⟨hc.1, trivial⟩ ?_
    dsimp only [flat, unc, unc1, List.nil_append, List.cons_append]
    refine call_bool (legal2_hc x.1 _ (by have : maxLen = 9223372036854775807 := rfl; omega)) ?_
    cases hle : legalL x.1.data.toList with
    | false =>
      refine cond_t (by simp) ?_
      refine ⟨by rw [← hu, hle]; rfl, e2⟩
    | true =>
      refine cond_f (by simp) ?_
      rw [hle, Bool.true_and] at hu
      refine loads_box b2 ((c.p, c.l, c.c), ()) rfl ?_
      dsimp only [flat, unc, unc1, List.nil_append, List.cons_append]
      refine need_of ⟨by omega, by omega⟩ (osome_mk rfl' ?_)
      refine loads_of ((pp, ll, cc), (x.2.num : Int), ()) ⟨by rw [add_add]; exact hc.2.1, by rw [add_add]; exact hc.2.2.1, trivial⟩ ?_
      dsimp only [flat, unc, unc1, List.nil_append, List.cons_append]
      obtain ⟨w1, w2, w3⟩ := linW va
      refine call_boolx (right50_hc w1 w2 w3) ?_
      intro h3 e3
      cases hr : rtR none x.2.terms with
      | false =>
        refine cond_t (by simp) ?_
        refine ⟨by rw [← hu, hr]; rfl, e2.trans e3⟩
      | true =>
        refine cond_f (by simp) ?_
        rw [hr, Bool.true_and] at hu
        refine again_mk (cs := [(false, [.int .i64]), (false, [.int .i64])]) (n41, ((i + 1 : Nat) : Int), ()) (u.equs.length - (i + 1)) rfl (by omega) (by rw [wrap_i64 (by omega) (by omega)]; rfl) ?_
        exact ⟨i + 1, rfl, rfl, by omega, e2.trans e3, b2.keep e3 (by simp), by rw [ht]; exact hg3.snoc (fun g hg => by rw [List.mem_singleton.1 hg]; exact hle), hu⟩
  intro q
  have q := of_decide_eq_false q
  have : i = u.equs.length := by omega
  subst this
  rw [List.drop_length, List.all_nil, Bool.true_and] at hu
  rw [List.take_length] at hg3
  -- the names
  refine loads_box b2 ((a.p, a.l, a.c), (b.p, b.l, b.c), (c.p, c.l, c.c), (d.p, d.l, d.c), ()) rfl ?_
  dsimp only [flat, unc, unc1, List.nil_append, List.cons_append]
  refine call_of (all_hc (v.keep e2) (by omega) (by omega) (by omega)) ?_
  rintro _ h5 ⟨p38, l39, l40, rfl, s5, e5⟩
  refine ⟨((p38, l39, l40), ()), rfl, ?_⟩
  dsimp only [flat, unc, unc1, List.nil_append, List.cons_append]
  have hA : (allN u).length ≤ 2 ^ 20 := by
    unfold allN
    have := labs_len u.text
    have := labs_len u.data
    simp only [List.length_append, List.length_map]
    omega
  have n5 := SN.len s5
  refine call_of (sorted_hc s5 (by omega)) ?_
  rintro _ h6 ⟨p41, l43, ys, rfl, hy1, hy2, e6⟩
  refine ⟨((p41, ys.length, l43), ()), rfl, ?_⟩
  dsimp only [flat, unc, unc1, List.nil_append, List.cons_append]
  have e56 := e5.trans e6
  have e06 := e2.trans e56
  by_cases hnd : (allN u).Nodup
  case neg =>
    rw [decide_eq_false hnd] at hu
    refine cond_t ?_ ⟨by rw [← hu]; rfl, e06⟩
    have : ¬ ys.length = (allN u).length := fun k => hnd (hy2.1 k)
    rw [n5]
    simp only [bne_iff_ne, ne_eq]
    omega
  rw [decide_eq_true hnd, Bool.true_and] at hu
  have hy := hy2.2 hnd
  refine cond_f (by rw [n5, hy]; simp) ?_
  have s6 : SN h6 h4.size p38 l39 l40 (allN u) := s5.keep e6 (by simp)
  have b6 := b2.keep e56 (by simp)
  have hleg : ∀ g, g ∈ allN u → ltN nam0 g := fun g hg => legal_gt (((hg1.snoc hg2).snoc hg3) g hg)
  generalize allN u = E at hu s6 hA hleg
  refine loop_of (cs := [(false, [.int .i64]), (false, [.int .i64])]) (fun y w h' => ∃ i : Nat, y.2.1 = (i : Int) ∧ w = u.globs.length - i ∧ i ≤ u.globs.length ∧ h' = h6 ∧ globsOk E (lastG u.globs i) (u.globs.drop i) = U) (n41, (0 : Int), ()) u.globs.length rfl
    ⟨0, rfl, rfl, by omega, rfl, hu⟩ ?_
  clear hu
  rintro ⟨n51, n52, ⟨⟩⟩ w h7 ⟨i, hi, rfl, hile, rfl, hu⟩
  simp only at hi
  subst hi
  dsimp only [flat, unc, unc1, List.nil_append, List.cons_append]
  refine loads_box b6 ((d.p, d.l, d.c), ()) rfl ?_
  dsimp only [flat, unc, unc1, List.nil_append, List.cons_append]
  refine cond_mk (fun q => ?_) (fun q => ?_)
  · have q := of_decide_eq_true q
    have hil : i < u.globs.length := by omega
    obtain ⟨aa, rfl', hc, va⟩ := (v.globs.keep e06).cells i hil
    rw [globsOk_step _ _ hil] at hu
    unfold gOk at hu
    refine cond_mk (fun r2 => ?_) (fun r2 => ?_)
    · have r2 := of_decide_eq_true r2
      refine loads_box b6 ((d.p, d.l, d.c), ()) rfl ?_
      dsimp only [flat, unc, unc1, List.nil_append, List.cons_append]
      refine need_of ⟨by omega, by omega⟩ (osome_mk rfl' ?_)
      rw [show Int.toNat (i : Int) = i by omega, wrap_i64 (x := (i : Int) - 1) (by omega) (by omega)]
      refine loads_of (u.globs[i], ()) hc ?_
      dsimp only [flat, unc, unc1, List.nil_append, List.cons_append]
      refine loads_box b6 ((d.p, d.l, d.c), ()) rfl ?_
      dsimp only [flat, unc, unc1, List.nil_append, List.cons_append]
      obtain ⟨ab, rfl'', hc', va'⟩ := (v.globs.keep e06).cells (i - 1) (by omega)
      refine need_of ⟨by omega, by omega⟩ (osome_mk rfl'' ?_)
      rw [show Int.toNat ((i : Int) - 1) = i - 1 by omega]
      refine loads_of (u.globs[i - 1], ()) hc' ?_
      dsimp only [flat, unc, unc1, List.nil_append, List.cons_append]
      have hla : lastG u.globs i = u.globs[i - 1] := by
        unfold lastG
        rw [if_neg (by omega), List.getD_eq_getElem?_getD, List.getElem?_eq_getElem (by omega)]
        rfl
      rw [leB]
      rw [hla] at hu
      refine cond_mk (fun r3 => ?_) (fun r3 => ?_)
      · have r3 : decide (ltN u.globs[i - 1] u.globs[i]) = false := by simpa using r3
        exact ⟨by rw [← hu, r3, Bool.and_false]; rfl, e06⟩
      · have r3 : decide (ltN u.globs[i - 1] u.globs[i]) = true := by simpa using r3
        rw [r3, Bool.and_true] at hu
        refine loads_box b6 ((d.p, d.l, d.c), ()) rfl ?_
        dsimp only [flat, unc, unc1, List.nil_append, List.cons_append]
        refine need_of ⟨by omega, by omega⟩ (osome_mk rfl' ?_)
        refine loads_of (u.globs[i], ()) hc ?_
        dsimp only [flat, unc, unc1, List.nil_append, List.cons_append]
        refine call_bool (has_hc s6 (by omega) _) ?_
        refine ⟨⟨b6.cells _ rfl, hc', b6.cells _ rfl, hc, b6.cells _ rfl, trivial⟩, ?_⟩
        cases hr : inN E u.globs[i] with
        | false =>
          refine cond_t (by simp) ?_
          exact ⟨by rw [← hu, hr]; rfl, e06⟩
        | true =>
          refine cond_f (by simp) ?_
          rw [hr, Bool.true_and] at hu
          exact again_mk (cs := [(false, [.int .i64]), (false, [.int .i64])]) (n51, ((i + 1 : Nat) : Int), ()) (u.globs.length - (i + 1)) rfl (by omega) (by rw [wrap_i64 (by omega) (by omega)]; rfl) ⟨i + 1, rfl, rfl, by omega, rfl, hu⟩
    · have r2 := of_decide_eq_false r2
      have hi0 : i = 0 := by omega
      subst hi0
      refine loads_box b6 ((d.p, d.l, d.c), ()) rfl ?_
      dsimp only [flat, unc, unc1, List.nil_append, List.cons_append]
      refine need_of ⟨by omega, by omega⟩ (osome_mk rfl' ?_)
      refine loads_of (u.globs[0], ()) hc ?_
      dsimp only [flat, unc, unc1, List.nil_append, List.cons_append]
      refine call_bool (has_hc s6 (by omega) _) ?_
      refine ⟨⟨b6.cells _ rfl, trivial⟩, ?_⟩
      cases hr : inN E u.globs[0] with
      | false =>
        refine cond_t (by simp) ?_
        exact ⟨by rw [← hu, hr]; rfl, e06⟩
      | true =>
        refine cond_f (by simp) ?_
        have hg : decide (ltN (lastG u.globs 0) u.globs[0]) = true := decide_eq_true (hleg _ (inN_iff.1 hr))
        rw [hr, hg, Bool.true_and, Bool.true_and] at hu
        exact again_mk (cs := [(false, [.int .i64]), (false, [.int .i64])]) (n51, ((0 + 1 : Nat) : Int), ()) (u.globs.length - (0 + 1)) rfl (by omega) (by rw [wrap_i64 (by omega) (by omega)]; rfl) ⟨0 + 1, rfl, rfl, by omega, rfl, hu⟩
  · have q := of_decide_eq_false q
    have : i = u.globs.length := by omega
    subst this
    rw [List.drop_length] at hu
    exact ⟨by rw [← hu]; rfl, e06⟩
end Go.Sx.Ob

set_option linter.unusedVariables false
set_option linter.unusedSimpArgs false
set_option maxRecDepth 100000
namespace Go.Sx.Ob
open Go.Proofs
theorem ErrAt.keep {h h' : Hp} {w : Value} {e : Option (Nat × Nat)} (v : ErrAt h w e) (k : Ext h h') : ErrAt h' w e := by
  cases e with
  | none => exact v
  | some e =>
    obtain ⟨a, h1, h2⟩ := v
    exact ⟨a, h1, h2.keep k (by simp)⟩
theorem Ch.st2 {h a b : Hp} {ws : List Nat} (e : Ext h a) (k : Ch ws a b) (hw : ∀ i, i ∈ ws → h.size ≤ i) : Ext h b := Ch.trans e k (fun i hi hl => by have := hw i hi; omega)
end Go.Sx.Ob

set_option linter.unusedVariables false
set_option linter.unusedSimpArgs false
set_option maxRecDepth 100000
namespace Go.Sx.Ob
open Go.Proofs
/-- Numbers of 32 bits. -/
structure LinNum (x : Lin) : Prop where
  coef : ∀ t, t ∈ x.terms → t.2 < 4294967296
  num : x.num < 4294967296
structure UntNum (u : Unt) : Prop where
  text : ∀ x, x ∈ u.text → LinNum x.e
  data : ∀ x, x ∈ u.data → LinNum x.e
  equs : ∀ x, x ∈ u.equs → LinNum x.2
theorem itemsOk_all (sec : Nat) : ∀ (l : List Itm) (D : List ByteArray), itemsOk sec D l = true → ∀ x, x ∈ l → itmR x sec = true
  | y :: l, D, h, x, hx => by
    unfold itemsOk at h
    rw [Bool.and_eq_true] at h
    rcases List.mem_cons.1 hx with rfl | hx
    · have := h.1
      unfold itmOk at this
      rw [Bool.and_eq_true] at this
      exact this.1
    · exact itemsOk_all sec l _ h.2 x hx
theorem linSm_of {x : Lin} (n : LinNum x) (h : bigL x = false) : LinSm x := by
  unfold bigL at h
  rw [decide_eq_false_iff_not] at h
  exact ⟨by omega, n.coef, n.num⟩
theorem itmSm_of {x : Itm} {sec : Nat} (n : LinNum x.e) (h : itmR x sec = true) (hb : bigI x = false) : LinSm x.e := by
  have z : isZ x.e = true → LinSm x.e := fun hz => by
    rw [isZ_eq hz]
    exact ⟨by decide, by simp [lin0], by decide⟩
  unfold bigI at hb
  unfold itmR at h
  by_cases k1 : x.kind = 1
  · rw [if_pos k1] at h
    simp only [Bool.and_eq_true] at h
    exact z h.1.2
  rw [if_neg k1] at h
  by_cases k2 : x.kind = 2
  · rw [if_pos k2] at h
    simp only [Bool.and_eq_true] at h
    by_cases hw : wnt x.inst.op = true
    · rw [decide_eq_true k2, hw] at hb
      simp only [Bool.true_and, Bool.true_or] at hb
      exact linSm_of n hb
    · rw [insR_z h.1.1.2 hw]
      exact ⟨by decide, by simp [lin0], by decide⟩
  rw [if_neg k2] at h
  by_cases k3 : x.kind = 3
  · rw [if_pos k3] at h
    simp only [Bool.and_eq_true] at h
    exact z h.2
  rw [if_neg k3] at h
  by_cases k4 : x.kind = 4
  · rw [if_pos k4] at h
    simp only [Bool.and_eq_true] at h
    exact z h.1.2
  rw [if_neg k4] at h
  by_cases k5 : x.kind = 5
  · rw [if_pos k5] at h
    simp only [Bool.and_eq_true] at h
    exact z h.2
  rw [if_neg k5] at h
  by_cases k6 : x.kind = 6
  · rw [decide_eq_true k6] at hb
    simp only [Bool.or_true, Bool.true_and] at hb
    exact linSm_of n hb
  rw [if_neg k6] at h
  by_cases k7 : x.kind = 7
  · rw [if_pos k7] at h
    simp only [Bool.and_eq_true] at h
    exact z h.2
  rw [if_neg k7] at h
  cases h
theorem untSm_of {u : Unt} (n : UntNum u) (h : untR u = 0) (hb : bigU u = false) : UntSm u := by
  obtain ⟨_, ok⟩ := untR_z h
  unfold untOk at ok
  simp only [Bool.and_eq_true] at ok
  unfold bigU at hb
  simp only [Bool.or_eq_false_iff, List.any_eq_false] at hb
  refine ⟨fun x hx => itmSm_of (n.text x hx) (itemsOk_all 0 _ _ ok.1.1.1 x hx) (by simpa using hb.1 x hx), fun x hx => itmSm_of (n.data x hx) (itemsOk_all 1 _ _ ok.1.1.2 x hx) (by simpa using hb.2.1 x hx), fun x hx => linSm_of (n.equs x hx) (by simpa using hb.2.2 x hx)⟩
theorem wrE_ok {u : Unt} (n : UntNum u) (h : wrE u = 0) : untR u = 0 ∧ UntSm u ∧ (wUnt u).length ≤ 1048576 := by
  unfold wrE at h
  split at h
  · cases h
  · split at h
    · cases h
    · split at h
      · cases h
      · rename_i h1 h2 h3
        have h1 : untR u = 0 := by omega
        exact ⟨h1, untSm_of n h1 (by simpa using h2), by omega⟩
theorem rd_ok {u : Unt} (h : untR u = 0) (s : UntSm u) (hl : (wUnt u).length ≤ 1048576) : readR (wUnt u) = .ok u := by
  unfold readR
  rw [if_neg (by omega)]
  have := unitR_app h s []
  rw [List.append_nil, if_pos rfl] at this
  rw [this]
end Go.Sx.Ob

set_option linter.unusedVariables false
set_option linter.unusedSimpArgs false
set_option maxRecDepth 100000
namespace Go.Sx.Ob
open Go.Proofs
theorem und40 : Tryz.prog.underlying 43 = some (.slice 28) := by kernel_rfl
theorem untZ : (Tryz.prog.info? 28).map (fun i => (i.zero, i.size, i.bytes)) = some (some (.agg #[.slice none 0 0, .slice none 0 0, .slice none 0 0, .slice none 0 0]), 4, 96) := by kernel_rfl
theorem fillU1 (p1 : Option Addr) (l1 c1 : Nat) (p2 : Option Addr) (l2 c2 : Nat) (p3 : Option Addr) (l3 c3 : Nat) (p4 : Option Addr) (l4 c4 : Nat) : Instr.fill (fun j => some (j * 4, 4)) ((Array.range (1 * 4)).map ((Value.agg #[.slice none 0 0, .slice none 0 0, .slice none 0 0, .slice none 0 0]).cells[· % (Value.agg #[.slice none 0 0, .slice none 0 0, .slice none 0 0, .slice none 0 0]).cells.size]!)) [(0, .agg #[.slice p1 l1 c1, .slice p2 l2 c2, .slice p3 l3 c3, .slice p4 l4 c4])] = some ([.slice p1 l1 c1, .slice p2 l2 c2, .slice p3 l3 c3, .slice p4 l4 c4] : List Value).toArray := by kernel_rfl
end Go.Sx.Ob
