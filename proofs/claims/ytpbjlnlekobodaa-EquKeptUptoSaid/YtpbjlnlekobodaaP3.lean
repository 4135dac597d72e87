/- Contracts over heaps, and plain laws, for the functions that the laws of chapter 11 call, part 3: The book of memory over terms (Keep): as BookA, BookB over tokens. The book of memory over terms (Stays, Apart): as BookA, BookB over tokens. Decimal numerals and joined texts over heaps: strconv.FormatUint at base 10, strings.Join, expr.Text. expr.Text over heaps: the text of an expression. The tokens of a text are such as the parser asks; expr.Value; texts read as expressions. The value of a sum is the sum of the values, that of a product the product; sums go in any order and grouping: in plain words. The frame of the laws whose parameters are Lins and lists of numbers: what they read as, and that they read so behind the call. Maps with texts for keys, over plain functions; lists of equs in memory; equ.numbers. Condition: as each statement says. -/
import Derived.Test.YtpbjlnlekobodaaP2
import Derived.Test.YtpbjlnlekobodaaEquV
import Derived.Test.YtpbjlnlekobodaaSxU
import Derived.Test.YtpbjlnlekobodaaP1
import Derived.Test.YtpbjlnlekobodaaEquT
import Derived.Test.YtpbjlnlekobodaaEquU
import Derived.Lib.ItoaMem
import Derived.Test.YtpbjlnlekobodaaRows
import Derived.ProofKit
import Derived.LaidMore
import Derived.LaidLaws
import Derived.OpenShut
import Derived.ChangeSame
import Derived.Stop.Joined
import Derived.ChangeStays
import Derived.ChangeOld
import Derived.ChangeSlices
import Derived.JoinedCond
set_option linter.unusedVariables false
set_option maxRecDepth 100000
namespace Go.Sx.TB
open Go.Sx
open Go.Proofs
theorem sameTS_hc {h : Hp} {b b' : Nat} {e e' : TypeId} {p0 p1 : Option Addr} {l0 c0 l1 c1 : Nat} {ts : Tms} (hlen : ts.length ≤ 2 ^ 48) (s0 : SL h b e 2 p0 l0 c0 (ts.map encT)) (s1 : SL h b' e' 2 p1 l1 c1 (ts.map encT)) :
    HCp Try.prog 33 [.slice p0 l0 c0, .slice p1 l1 c1] h (.bool true) := sameT_hc hlen s0.vwT s1.vwT
/-- A list that a book keeps, and its copy. -/
structure Ent where
  p : Option Addr
  l : Nat
  c : Nat
  q : Option Addr
  d : Nat
  ts : Tms
def Ent.one (e : Ent) : List Value := [.slice e.p e.l e.c]
def Ent.two (e : Ent) : List Value := [.slice e.q e.l e.d]
def Ent.blks (e : Ent) : List Nat := blkOf e.p ++ blkOf e.q
/-- A book in a heap: its own block, the lists, the copies; nothing shares a block. -/
structure Book (h : Hp) (gb b : Nat) (pl : Option Addr) (cl : Nat) (pw : Option Addr) (cw : Nat) (es : List Ent) : Prop where
  box : ∃ held : Int, Box h gb 51 [.slice pl es.length cl, .slice pw es.length cw, .int .i64 held, .bool false]
  ge : b ≤ gb
  one : SL h b 33 1 pl es.length cl (es.map Ent.one)
  two : SL h b 33 1 pw es.length cw (es.map Ent.two)
  ent : ∀ e, e ∈ es → SL h b 40 2 e.p e.l e.c (e.ts.map encT) ∧ SL h b 40 2 e.q e.l e.d (e.ts.map encT) ∧ e.ts.length ≤ 2 ^ 40
  gpl : gb ∉ blkOf pl
  gpw : gb ∉ blkOf pw
  plw : ∀ i, i ∈ blkOf pl → i ∉ blkOf pw
  eg : ∀ e, e ∈ es → ∀ i, i ∈ e.blks → i ≠ gb ∧ i ∉ blkOf pl ∧ i ∉ blkOf pw
  pq : ∀ e, e ∈ es → ∀ i, i ∈ blkOf e.p → i ∉ blkOf e.q
  ee : es.Pairwise fun e f => ∀ i, i ∈ e.blks → i ∉ f.blks
theorem Book.lt {h : Hp} {gb b : Nat} {pl : Option Addr} {cl : Nat} {pw : Option Addr} {cw : Nat} {es : List Ent} (B : Book h gb b pl cl pw cw es) : gb < h.size ∧ (∀ i, i ∈ blkOf pl → i < h.size) ∧ (∀ i, i ∈ blkOf pw → i < h.size) ∧ ∀ e, e ∈ es → ∀ i, i ∈ e.blks → i < h.size := by
  obtain ⟨held, hb⟩ := B.box
  refine ⟨hb.lt, fun i hi => (B.one.blk hi).2, fun i hi => (B.two.blk hi).2, fun e he i hi => ?_⟩
  rcases List.mem_append.1 hi with hi | hi
  · exact ((B.ent e he).1.blk hi).2
  · exact ((B.ent e he).2.1.blk hi).2
theorem Book.keep {ws : List Nat} {h h' : Hp} {gb b : Nat} {pl : Option Addr} {cl : Nat} {pw : Option Addr} {cw : Nat} {es : List Ent} (B : Book h gb b pl cl pw cw es) (k : Ch ws h h')
    (h1 : gb ∉ ws) (h2 : ∀ i, i ∈ blkOf pl → i ∉ ws) (h3 : ∀ i, i ∈ blkOf pw → i ∉ ws) (h4 : ∀ e, e ∈ es → ∀ i, i ∈ e.blks → i ∉ ws) : Book h' gb b pl cl pw cw es := by
  obtain ⟨held, hb⟩ := B.box
  exact ⟨⟨held, hb.keep k h1⟩, B.ge, B.one.keep' k h2, B.two.keep' k h3, fun e he => ⟨(B.ent e he).1.keep' k fun i hi => h4 e he i (List.mem_append_left _ hi), (B.ent e he).2.1.keep' k fun i hi => h4 e he i (List.mem_append_right _ hi), (B.ent e he).2.2⟩,
    B.gpl, B.gpw, B.plw, B.eg, B.pq, B.ee⟩
/-- The book's own block turns, its lists stay. -/
theorem Book.rebox {h h' : Hp} {gb b : Nat} {pl : Option Addr} {cl : Nat} {pw : Option Addr} {cw : Nat} {es : List Ent} (B : Book h gb b pl cl pw cw es) (k : Ch [gb] h h') {held : Int}
    (hb : Box h' gb 51 [.slice pl es.length cl, .slice pw es.length cw, .int .i64 held, .bool false]) : Book h' gb b pl cl pw cw es :=
  ⟨⟨held, hb⟩, B.ge, B.one.keep' k fun i hi => by simp; exact fun e => B.gpl (e ▸ hi), B.two.keep' k fun i hi => by simp; exact fun e => B.gpw (e ▸ hi),
    fun e he => ⟨(B.ent e he).1.keep' k fun i hi => by simp; exact (B.eg e he i (List.mem_append_left _ hi)).1, (B.ent e he).2.1.keep' k fun i hi => by simp; exact (B.eg e he i (List.mem_append_right _ hi)).1, (B.ent e he).2.2⟩,
    B.gpl, B.gpw, B.plw, B.eg, B.pq, B.ee⟩
theorem blkOf_add (p : Option Addr) (k : Nat) : blkOf (p.map fun a => a.add k) = blkOf p := by
  cases p with
  | none => rfl
  | some a => simp [blkOf, add_block]
/-- The book lets its first list go. -/
theorem Book.tail {h h' : Hp} {gb b : Nat} {pl : Option Addr} {cl : Nat} {pw : Option Addr} {cw : Nat} {es : List Ent} (B : Book h gb b pl cl pw cw es) (k : Ch [gb] h h') (h1 : 1 ≤ es.length) {held : Int}
    (hb : Box h' gb 51 [.slice (pl.map fun a => a.add 1) (es.length - 1) (cl - 1), .slice (pw.map fun a => a.add 1) (es.length - 1) (cw - 1), .int .i64 held, .bool false]) :
    Book h' gb b (pl.map fun a => a.add 1) (cl - 1) (pw.map fun a => a.add 1) (cw - 1) (es.drop 1) := by
  have hl : (es.drop 1).length = es.length - 1 := by rw [List.length_drop]
  have hm : ∀ e, e ∈ es.drop 1 → e ∈ es := fun e he => List.mem_of_mem_drop he
  have o1 := (B.one.drop (k := 1) h1).keep' k (fun i hi => by rw [blkOf_add] at hi; simp; exact fun e => B.gpl (e ▸ hi))
  have o2 := (B.two.drop (k := 1) h1).keep' k (fun i hi => by rw [blkOf_add] at hi; simp; exact fun e => B.gpw (e ▸ hi))
  rw [← List.map_drop] at o1 o2
  refine ⟨⟨held, by rw [hl]; exact hb⟩, B.ge, by rw [hl]; exact o1, by rw [hl]; exact o2,
    fun e he => ⟨(B.ent e (hm e he)).1.keep' k fun i hi => by simp; exact (B.eg e (hm e he) i (List.mem_append_left _ hi)).1, (B.ent e (hm e he)).2.1.keep' k fun i hi => by simp; exact (B.eg e (hm e he) i (List.mem_append_right _ hi)).1, (B.ent e (hm e he)).2.2⟩,
    by rw [blkOf_add]; exact B.gpl, by rw [blkOf_add]; exact B.gpw, by rw [blkOf_add, blkOf_add]; exact B.plw, ?_, fun e he => B.pq e (hm e he), B.ee.sublist (List.drop_sublist 1 es)⟩
  intro e he i hi
  rw [blkOf_add, blkOf_add]
  exact B.eg e (hm e he) i hi
/-- What has come of a book since a heap. -/
def BookTo (h : Hp) (gb b : Nat) (pl pw : Option Addr) (es : List Ent) (p : Option Addr) (h' : Hp) (es' : List Ent) : Prop :=
  ∃ pl' cl' pw' cw', Book h' gb b pl' cl' pw' cw' es' ∧ Ch (gb :: (blkOf pl ++ blkOf pw)) h h' ∧ (∀ i, i ∈ blkOf pl' → i ∈ blkOf pl ∨ h.size ≤ i) ∧ (∀ i, i ∈ blkOf pw' → i ∈ blkOf pw ∨ h.size ≤ i) ∧
    ∀ e, e ∈ es' → ∀ i, i ∈ e.blks → i ∈ blkOf p ∨ h.size ≤ i ∨ ∃ f, f ∈ es ∧ i ∈ f.blks
theorem chGb {h h1 h2 : Hp} {gb : Nat} {l : List Nat} (a : Ch (gb :: l) h h1) (c : Ch [gb] h1 h2) : Ch (gb :: l) h h2 := a.trans c (fun i hi _ => by simp at hi; simp [hi])
/-- Keep: behind it the book holds the list too, or fewer. -/
theorem keep_hc {h : Hp} {gb b : Nat} {pl : Option Addr} {cl : Nat} {pw : Option Addr} {cw : Nat} {es : List Ent} (B : Book h gb b pl cl pw cw es) (hlen : es.length ≤ 4000) {p : Option Addr} {l c : Nat} {ts : Tms}
    (s : SL h b 40 2 p l c (ts.map encT)) (hts : ts.length ≤ 2 ^ 40) (hfresh : ∀ i, i ∈ blkOf p → i ≠ gb ∧ i ∉ blkOf pl ∧ i ∉ blkOf pw ∧ ∀ e, e ∈ es → i ∉ e.blks) (hbs : b ≤ h.size) :
    HC Try.prog 14 #[.pointer (some ⟨gb, 0, none⟩), .slice p l c] h fun v h' => v = .tuple #[] ∧ ∃ es', es'.length ≤ 4000 ∧ BookTo h gb b pl pw es p h' es' := by
  refine hcr_of (args := [.pointer (some ⟨gb, 0, none⟩), .slice p l c]) mixed Try.func14 (by kernel_rfl) (t_spandrelbook_Book_api_Term___Keep_eq (some ⟨gb, 0, none⟩) p l c) ?_
  unfold t_spandrelbook_Book_api_Term___Keep
  have hll : l = ts.length := by rw [s.1, List.length_map]
  have hsz := B.lt
  obtain ⟨held0, hb⟩ := B.box
  refine join_of (cs := []) (fun _ h2 => ∃ p1 c1 h1, SL h1 b 33 1 p1 (es.length + 1) c1 (es.map Ent.one ++ [[.slice p l c]]) ∧ Ch (blkOf pl) h h1 ∧ (p1 = pl ∨ ∃ a, p1 = some a ∧ h.size ≤ a.block) ∧ Ch [gb] h1 h2 ∧
    Box h2 gb 51 [.slice p1 (es.length + 1) c1, .slice pw es.length cw, .int .i64 held0, .bool false]) ?_ ?_
  · refine osome_mk rfl (loads_box hb ((pl, es.length, cl), ()) rfl ?_)
    dsimp only [flat, unc, unc1, List.nil_append, List.cons_append]
    refine push_of (e := 33) (z := .slice none 0 0) (sz := 1) (by' := 24) (vs := [.slice p l c]) (by kernel_rfl) (by kernel_rfl) rfl (by omega) (by omega) (by kernel_rfl) rfl rfl B.one hbs (by omega) (by omega) ?_
    intro p1 c1 h1 o1 k1 hp1
    have hb1 := hb.keep k1 B.gpl
    refine osome_mk rfl (stores_of hb1 rfl (by simp) ?_)
    intro h2 hb2 k2 z2
    exact meet_mk (cs := []) () rfl rfl ⟨p1, c1, h1, o1, k1, hp1, k2, hb2⟩
  rintro ⟨⟩ h2 ⟨p1, c1, h1, o1, k1, hp1, k2, hb2⟩
  refine join_of (cs := []) (fun _ h' => ∃ es', es'.length ≤ 4001 ∧ BookTo h gb b pl pw es p h' es') ?_ ?_
  · refine osome_mk rfl ?_
    rw [add_box]
    refine loads_box hb2 ((pw, es.length, cw), ()) rfl ?_
    dsimp only [flat, unc, unc1, List.nil_append, List.cons_append]
    have s2 : SL h2 b 40 2 p l c (ts.map encT) := (s.keep' k1 fun i hi => (hfresh i hi).2.1).keep' k2 fun i hi => by simp; exact (hfresh i hi).1
    have hpl : (ts.map encT).flatten.all plainV = true := by
      rw [List.all_eq_true]
      intro v hv
      obtain ⟨x, hx, hv⟩ := List.mem_flatten.1 hv
      obtain ⟨t, _, rfl⟩ := List.mem_map.1 hx
      simp only [encT, List.mem_cons, List.not_mem_nil, or_false] at hv
      rcases hv with rfl | rfl <;> rfl
    have g1 := k1.size
    have g2 := k2.size
    refine copy_of (e := 40) (z := .agg #[.string ⟨#[]⟩, .int .u32 0]) (sz := 2) (by' := 24) (b' := b) (by kernel_rfl) (by kernel_rfl) rfl s2 hpl (by omega) (by omega) (by omega) ?_
    intro q d h3 sq k3 hq
    have hb3 := hb2.keep k3 (by simp)
    refine ⟨⟨hb3.cells _ rfl, trivial⟩, ?_⟩
    have g3 := k3.size
    have w3 : SL h3 b 33 1 pw es.length cw (es.map Ent.two) := ((B.two.keep' k1 fun i hi hh => B.plw i hh hi).keep' k2 fun i hi => by simp; exact fun e => B.gpw (e ▸ hi)).keep' k3 (by simp)
    refine push_st (e := 33) (z := .slice none 0 0) (sz := 1) (by' := 24) (vs := [.slice q l d]) (by kernel_rfl) (by kernel_rfl) rfl (by omega) (by omega) (by kernel_rfl) rfl rfl w3 (by omega) (by omega) (by omega) (fun h' e => ⟨(hb3.keep e (by simp)).cells _ rfl, trivial⟩) ?_
    intro p2 c2 h4 o2 k4 hp2
    have hb4 := hb3.keep k4 B.gpw
    refine osome_mk rfl ?_
    rw [add_box]
    refine stores_of hb4 rfl (by simp) ?_
    intro h5 hb5 k5 z5
    have hb5 : Box h5 gb 51 [.slice p1 (es.length + 1) c1, .slice p2 (es.length + 1) c2, .int .i64 held0, .bool false] := hb5
    refine meet_mk (cs := []) () rfl rfl ⟨es ++ [⟨p, l, c, q, d, ts⟩], by simp; omega, p1, c1, p2, c2, ?_, ?_, ?_, ?_, ?_⟩
    · -- the book
      have bp1 : ∀ i, i ∈ blkOf p1 → i ∈ blkOf pl ∨ h.size ≤ i := by
        intro i hi
        rcases hp1 with rfl | ⟨a, rfl, ha⟩
        · exact .inl hi
        · simp [blkOf] at hi; right; omega
      have bp2 : ∀ i, i ∈ blkOf p2 → i ∈ blkOf pw ∨ h3.size ≤ i := by
        intro i hi
        rcases hp2 with rfl | ⟨a, rfl, ha⟩
        · exact .inl hi
        · simp [blkOf] at hi; right; omega
      have bq : ∀ i, i ∈ blkOf q → h2.size ≤ i ∧ i < h3.size := by
        intro i hi
        refine ⟨?_, (sq.blk hi).2⟩
        rcases hq with rfl | ⟨a, rfl, ha⟩
        · simp [blkOf] at hi
        · simp [blkOf] at hi; omega
      have lp1 : ∀ i, i ∈ blkOf p1 → i < h1.size := fun i hi => (o1.blk hi).2
      have lp : ∀ i, i ∈ blkOf p → i < h.size := fun i hi => (s.blk hi).2
      have o1' : SL h5 b 33 1 p1 (es.length + 1) c1 (es.map Ent.one ++ [[.slice p l c]]) := by
        refine (((o1.keep' k2 fun i hi => ?_).keep' k3 (by simp)).keep' k4 fun i hi hh => ?_).keep' k5 fun i hi => ?_
        · simp; intro e; subst e
          rcases bp1 i hi with hh | hh
          · exact B.gpl hh
          · have := hsz.1; omega
        · rcases bp1 i hi with h' | h'
          · exact B.plw i h' hh
          · have := hsz.2.2.1 i hh; omega
        · simp; intro e; subst e
          rcases bp1 i hi with hh | hh
          · exact B.gpl hh
          · have := hsz.1; omega
      have o2' : SL h5 b 33 1 p2 (es.length + 1) c2 (es.map Ent.two ++ [[.slice q l d]]) := o2.keep' k5 fun i hi => by
        simp; intro e; subst e
        rcases bp2 i hi with hh | hh
        · exact B.gpw hh
        · have := hsz.1; omega
      have kall : ∀ {e' : TypeId} {sz : Nat} {p' : Option Addr} {l' c' : Nat} {xs : List (List Value)}, SL h b e' sz p' l' c' xs → (∀ i, i ∈ blkOf p' → i ≠ gb ∧ i ∉ blkOf pl ∧ i ∉ blkOf pw) → SL h5 b e' sz p' l' c' xs := by
        intro e' sz p' l' c' xs s' hd
        exact ((((s'.keep' k1 fun i hi => (hd i hi).2.1).keep' k2 fun i hi => by simp; exact (hd i hi).1).keep' k3 (by simp)).keep' k4 fun i hi => (hd i hi).2.2).keep' k5 fun i hi => by simp; exact (hd i hi).1
      have hsq : SL h5 b 40 2 q l d (ts.map encT) := (sq.keep' k4 fun i hi hh => by have := (bq i hi).1; have := hsz.2.2.1 i hh; omega).keep' k5 fun i hi => by
        simp; intro e; subst e; have := (bq i hi).1; have := hsz.1; omega
      have hlen1 : (es ++ [(⟨p, l, c, q, d, ts⟩ : Ent)]).length = es.length + 1 := by simp
      refine ⟨⟨held0, by rw [hlen1]; exact hb5⟩, B.ge, by rw [hlen1, List.map_append]; exact o1', by rw [hlen1, List.map_append]; exact o2', ?_, ?_, ?_, ?_, ?_, ?_, ?_⟩
      · intro e he
        rcases List.mem_append.1 he with he | he
        · have hd := B.eg e he
          exact ⟨kall (B.ent e he).1 fun i hi => hd i (List.mem_append_left _ hi), kall (B.ent e he).2.1 fun i hi => hd i (List.mem_append_right _ hi), (B.ent e he).2.2⟩
        · have he : e = ⟨p, l, c, q, d, ts⟩ := by simpa using he
          subst he
          exact ⟨kall s fun i hi => ⟨(hfresh i hi).1, (hfresh i hi).2.1, (hfresh i hi).2.2.1⟩, hsq, hts⟩
      · intro hi
        rcases bp1 gb hi with hh | hh
        · exact B.gpl hh
        · have := hsz.1; omega
      · intro hi
        rcases bp2 gb hi with hh | hh
        · exact B.gpw hh
        · have := hsz.1; omega
      · intro i hi hi2
        rcases bp1 i hi with hh | hh <;> rcases bp2 i hi2 with h' | h'
        · exact B.plw i hh h'
        · have := hsz.2.1 i hh; omega
        · have := hsz.2.2.1 i h'; omega
        · have := lp1 i hi; omega
      · intro e he i hi
        rcases List.mem_append.1 he with he | he
        · have hd := B.eg e he i hi
          have hlt := hsz.2.2.2 e he i hi
          exact ⟨hd.1, fun hh => (bp1 i hh).elim hd.2.1 (by omega), fun hh => (bp2 i hh).elim hd.2.2 (by omega)⟩
        · have he : e = ⟨p, l, c, q, d, ts⟩ := by simpa using he
          subst he
          rcases List.mem_append.1 hi with hi | hi
          · have hd := hfresh i hi
            have hlt := lp i hi
            exact ⟨hd.1, fun hh => (bp1 i hh).elim hd.2.1 (by omega), fun hh => (bp2 i hh).elim hd.2.2.1 (by omega)⟩
          · have := bq i hi
            refine ⟨by have := hsz.1; omega, fun hh => ?_, fun hh => ?_⟩
            · have := lp1 i hh; omega
            · rcases bp2 i hh with hh | hh
              · have := hsz.2.2.1 i hh; omega
              · omega
      · intro e he i hi
        rcases List.mem_append.1 he with he | he
        · exact B.pq e he i hi
        · have he : e = ⟨p, l, c, q, d, ts⟩ := by simpa using he
          subst he
          intro hh
          have := (bq i hh).1
          have := lp i hi
          omega
      · refine List.pairwise_append.2 ⟨B.ee, by simp, ?_⟩
        intro e he f hf i hi hh
        have hf : f = ⟨p, l, c, q, d, ts⟩ := by simpa using hf
        subst hf
        rcases List.mem_append.1 hh with hh | hh
        · exact (hfresh i hh).2.2.2 e he hi
        · have := (bq i hh).1
          have := hsz.2.2.2 e he i hi
          omega
    · refine Ch.trans (Ch.trans (Ch.trans (Ch.trans (k1.mono fun i hi _ => by simp [hi]) k2 fun i hi _ => by simp at hi; simp [hi]) k3 (by simp)) k4 fun i hi _ => by simp [hi]) k5 fun i hi _ => by simp at hi; simp [hi]
    · intro i hi
      rcases hp1 with rfl | ⟨a, rfl, ha⟩
      · exact .inl hi
      · simp [blkOf] at hi; right; omega
    · intro i hi
      rcases hp2 with rfl | ⟨a, rfl, ha⟩
      · exact .inl hi
      · simp [blkOf] at hi; right; omega
    · intro e he i hi
      rcases List.mem_append.1 he with he | he
      · exact .inr (.inr ⟨e, he, hi⟩)
      · have he : e = ⟨p, l, c, q, d, ts⟩ := by simpa using he
        subst he
        rcases List.mem_append.1 hi with hi | hi
        · exact .inl hi
        · right; left
          rcases hq with rfl | ⟨a, rfl, ha⟩
          · simp [blkOf] at hi
          · simp [blkOf] at hi; omega
  · rintro ⟨⟩ h1 ⟨es1, hl1, pl1, cl1, pw1, cw1, B1, k1, a1, a2, a3⟩
    obtain ⟨held, hb⟩ := B1.box
    refine osome_mk rfl ?_
    rw [add_box]
    refine loads_box hb (held, ()) rfl ?_
    dsimp only [flat, unc, unc1, List.nil_append, List.cons_append]
    refine osome_mk rfl ?_
    rw [add_box]
    refine stores_of hb rfl (by simp) ?_
    intro h2 hb2 k2 z2
    refine loop_of (cs := []) (fun _ n h' => ∃ es', es'.length ≤ 4001 ∧ n = es'.length ∧ BookTo h gb b pl pw es p h' es') () es1.length rfl ⟨es1, hl1, rfl, pl1, cl1, pw1, cw1, B1.rebox k2 hb2, chGb k1 k2, a1, a2, a3⟩ ?_
    clear hb k2 hb2 z2 B1 k1 a1 a2 a3 hl1 es1
    rintro ⟨⟩ m h3 ⟨es1, hl1, rfl, hB⟩
    refine join_of (cs := []) (fun _ h' => ∃ es', es'.length = es1.length ∧ 1 < es'.length ∧ BookTo h gb b pl pw es p h' es') ?_ ?_
    · have hB0 := hB
      obtain ⟨pl1, cl1, pw1, cw1, B1, k1, a1, a2, a3⟩ := hB
      obtain ⟨held, hb⟩ := B1.box
      refine osome_mk rfl (loads_box hb ((pl1, es1.length, cl1), ()) rfl ?_)
      dsimp only [flat, unc, unc1, List.nil_append, List.cons_append]
      refine cond_mk (fun g1 => ?_) (fun g1 => ?_)
      · have g1 := of_decide_eq_true g1
        refine osome_mk rfl ?_
        rw [add_box]
        refine loads_box hb (held, ()) rfl ?_
        dsimp only [flat, unc, unc1, List.nil_append, List.cons_append]
        have mt : ∀ L, (T.again 1 []) [L, fun vs h' => ∃ y : HVs (flat []), vs = parts [] (hvs _ y) ∧ ∃ es', es'.length = es1.length ∧ 1 < es'.length ∧ BookTo h gb b pl pw es p h' es'] (fun v h' => v = .tuple #[] ∧ ∃ es', es'.length ≤ 4000 ∧ BookTo h gb b pl pw es p h' es') h3 :=
          fun L => meet_mk (cs := []) () rfl rfl ⟨es1, rfl, by omega, hB0⟩
        refine cond_mk (fun g2 => mt _) (fun g2 => ?_)
        refine osome_mk rfl (loads_box hb ((pl1, es1.length, cl1), ()) rfl ?_)
        dsimp only [flat, unc, unc1, List.nil_append, List.cons_append]
        refine cond_mk (fun g3 => mt _) (fun g3 => ?_)
        have g3 := of_decide_eq_false g3
        exact ⟨rfl, es1, by omega, hB0⟩
      · have g1 := of_decide_eq_false g1
        exact ⟨rfl, es1, by omega, hB0⟩
    · rintro ⟨⟩ h4 ⟨es2, hl2, hg2, hB⟩
      refine join_of (cs := []) (fun _ h' => ∃ es', es'.length = es1.length ∧ 1 < es'.length ∧ BookTo h gb b pl pw es p h' es') ?_ ?_
      · obtain ⟨pl1, cl1, pw1, cw1, B1, k1, a1, a2, a3⟩ := hB
        obtain ⟨held, hb⟩ := B1.box
        refine osome_mk rfl ?_
        rw [add_box]
        refine loads_box hb (false, ()) rfl ?_
        dsimp only [flat, unc, unc1, List.nil_append, List.cons_append]
        refine cond_f rfl (osome_mk rfl (loads_box hb ((pl1, es2.length, cl1), ()) rfl ?_))
        dsimp only [flat, unc, unc1, List.nil_append, List.cons_append]
        obtain ⟨q1, hq1, c1⟩ := B1.one.cells (i := 0) (by rw [List.length_map]; omega)
        obtain ⟨q2, hq2, c2⟩ := B1.two.cells (i := 0) (by rw [List.length_map]; omega)
        rw [List.getElem_map] at c1 c2
        have hent := B1.ent es2[0] (List.getElem_mem (by omega))
        generalize es2[0] = e at c1 c2 hent
        refine need_of ⟨by omega, by omega⟩ (osome_mk hq1 (loads_of ((e.p, e.l, e.c), ()) c1 ?_))
        dsimp only [flat, unc, unc1, List.nil_append, List.cons_append]
        refine osome_mk rfl ?_
        rw [add_box]
        refine loads_box hb ((pw1, es2.length, cw1), ()) rfl ?_
        dsimp only [flat, unc, unc1, List.nil_append, List.cons_append]
        refine need_of ⟨by omega, by omega⟩ (osome_mk hq2 (loads_of ((e.q, e.l, e.d), ()) c2 ?_))
        dsimp only [flat, unc, unc1, List.nil_append, List.cons_append]
        refine call_bool (sameTS_hc (by have := hent.2.2; omega) hent.1 hent.2.1) ?_
        refine ⟨⟨hb.cells _ rfl, hb.cells _ rfl, ?_, trivial⟩, ?_⟩
        · exact hb.cells _ rfl
        refine osome_mk rfl ?_
        rw [add_box]
        refine stores_of hb rfl (by simp) ?_
        intro h5 hb5 k5 z5
        exact meet_mk (cs := []) () rfl rfl ⟨es2, hl2, hg2, pl1, cl1, pw1, cw1, B1.rebox k5 hb5, chGb k1 k5, a1, a2, a3⟩
      · clear hB hl2 hg2 es2
        rintro ⟨⟩ h5 ⟨es2, hl2, hg2, pl1, cl1, pw1, cw1, B0, k0, a1, a2, a3⟩
        obtain ⟨held5, hb5⟩ := B0.box
        refine osome_mk rfl ?_
        rw [add_box]
        refine loads_box hb5 (held5, ()) rfl ?_
        dsimp only [flat, unc, unc1, List.nil_append, List.cons_append]
        refine osome_mk rfl (loads_box hb5 ((pl1, es2.length, cl1), ()) rfl ?_)
        dsimp only [flat, unc, unc1, List.nil_append, List.cons_append]
        obtain ⟨q1, hq1, c1⟩ := B0.one.cells (i := 0) (by rw [List.length_map]; omega)
        rw [List.getElem_map] at c1
        generalize es2[0] = e at c1
        refine need_of ⟨by omega, by omega⟩ (osome_mk hq1 (loads_of ((e.p, e.l, e.c), ()) c1 ?_))
        dsimp only [flat, unc, unc1, List.nil_append, List.cons_append]
        refine osome_mk rfl ?_
        rw [add_box]
        refine stores_of hb5 rfl (by simp) ?_
        intro h6 hb6 k6 z6
        have B1 := B0.rebox k6 hb6
        have k1 := chGb k0 k6
        obtain ⟨held, hb⟩ := B1.box
        have hcap : ∀ {p' : Option Addr} {c' : Nat} {xs : List (List Value)}, SL h6 b 33 1 p' es2.length c' xs → es2.length ≤ c' := by
          intro p' c' xs s'
          cases p' with
          | none =>
            have h1 := s'.2.2.2
            have h2 := s'.1
            rw [h1, List.length_nil] at h2; omega
          | some a => obtain ⟨_, _, _, _, _, hh, _⟩ := s'.2.2; exact hh.1
        have hc1 := hcap B1.one
        have hc2 := hcap B1.two
        refine osome_mk rfl (loads_box hb ((pl1, es2.length, cl1), ()) rfl ?_)
        dsimp only [flat, unc, unc1, List.nil_append, List.cons_append]
        refine need_of ⟨by omega, by omega, by omega⟩ (osome_mk rfl ?_)
        rw [if_neg (by omega)]
        refine stores_of hb rfl (by simp) ?_
        intro h7 hb7 k7 z7
        have hb7 : Box h7 gb 51 [.slice (pl1.map fun a => a.add 1) (es2.length - 1) (cl1 - 1), .slice pw1 es2.length cw1, .int .i64 held, .bool false] := hb7
        refine osome_mk rfl ?_
        rw [add_box]
        refine loads_box hb7 ((pw1, es2.length, cw1), ()) rfl ?_
        dsimp only [flat, unc, unc1, List.nil_append, List.cons_append]
        refine need_of ⟨by omega, by omega, by omega⟩ (osome_mk rfl ?_)
        rw [if_neg (by omega), add_box]
        refine stores_of hb7 rfl (by simp) ?_
        intro h8 hb8 k8 z8
        have hb8 : Box h8 gb 51 [.slice (pl1.map fun a => a.add 1) (es2.length - 1) (cl1 - 1), .slice (pw1.map fun a => a.add 1) (es2.length - 1) (cw1 - 1), .int .i64 held, .bool false] := hb8
        have k78 : Ch [gb] h6 h8 := k7.trans k8 (fun i hi _ => hi)
        refine again_mk (cs := []) () (es2.length - 1) rfl (by omega) rfl ⟨es2.drop 1, by simp; omega, by simp, _, _, _, _, B1.tail k78 (by omega) hb8, chGb k1 k78, ?_, ?_, fun e he => a3 e (List.mem_of_mem_drop he)⟩
        · rw [blkOf_add]; exact a1
        · rw [blkOf_add]; exact a2
end Go.Sx.TB

set_option linter.unusedVariables false
set_option maxRecDepth 100000
namespace Go.Sx.TB
open Go.Sx
open Go.Proofs
/-- What lay below a place lies there as it did. -/
def Since (b : Nat) (h h' : Hp) : Prop := h.size ≤ h'.size ∧ ∀ i, i < b → i < h.size → h'[i]? = h[i]?
theorem Since.of {ws : List Nat} {b : Nat} {h h' : Hp} (k : Ch ws h h') (hw : ∀ i, i ∈ ws → i < h.size → b ≤ i) : Since b h h' :=
  ⟨k.size, fun i hi hl => k.same i hl fun hm => by have := hw i hm hl; omega⟩
theorem Since.trans {b : Nat} {h h1 h2 : Hp} (a : Since b h h1) (c : Since b h1 h2) : Since b h h2 :=
  ⟨Nat.le_trans a.1 c.1, fun i hi hl => (c.2 i hi (Nat.lt_of_lt_of_le hl a.1)).trans (a.2 i hi hl)⟩
theorem Since.ext {h h1 h2 : Hp} (a : Ext h h1) (c : Since h.size h1 h2) : Ext h h2 :=
  ⟨Nat.le_trans a.size c.1, fun i hi _ => (c.2 i hi (Nat.lt_of_lt_of_le hi a.size)).trans (a.same i hi (by simp))⟩
/-- Stays: each list is as its copy. -/
theorem stays_hc {h : Hp} {gb b : Nat} {pl : Option Addr} {cl : Nat} {pw : Option Addr} {cw : Nat} {es : List Ent} (B : Book h gb b pl cl pw cw es) (hlen : es.length ≤ 4000) :
    HC Try.prog 35 #[.pointer (some ⟨gb, 0, none⟩)] h fun v h' => v = .bool true ∧ Book h' gb b pl cl pw cw es ∧ Ch [gb] h h' := by
  refine hcr_of (args := [.pointer (some ⟨gb, 0, none⟩)]) mixed Try.func35 (by kernel_rfl) (t_spandrelbook_Book_api_Term___Stays_eq (some ⟨gb, 0, none⟩)) ?_
  unfold t_spandrelbook_Book_api_Term___Stays
  refine loop_of (cs := [(false, [.int .i64])]) (fun x n h' => ∃ i : Nat, x.1 = (i : Int) ∧ i ≤ es.length ∧ n = es.length - i ∧ Book h' gb b pl cl pw cw es ∧ Ch [gb] h h') ((0 : Int), ()) es.length rfl ⟨0, rfl, by omega, by omega, B, Ch.refl _ _⟩ ?_
  clear B
  rintro ⟨n1, ⟨⟩⟩ m h1 ⟨i, hi, hile, rfl, B, k1⟩
  simp only at hi
  subst hi
  dsimp only [flat, unc, unc1, List.nil_append, List.cons_append]
  obtain ⟨held, hb⟩ := B.box
  refine osome_mk rfl (loads_box hb ((pl, es.length, cl), ()) rfl ?_)
  dsimp only [flat, unc, unc1, List.nil_append, List.cons_append]
  refine cond_mk (fun g1 => ?_) (fun g1 => ?_)
  · have g1 := of_decide_eq_true g1
    have hlt : i < es.length := by omega
    refine osome_mk rfl ?_
    rw [add_box]
    refine loads_box hb (false, ()) rfl ?_
    dsimp only [flat, unc, unc1, List.nil_append, List.cons_append]
    refine cond_f rfl (osome_mk rfl (loads_box hb ((pl, es.length, cl), ()) rfl ?_))
    dsimp only [flat, unc, unc1, List.nil_append, List.cons_append]
    obtain ⟨q1, hq1, c1⟩ := B.one.cells (i := i) (by rw [List.length_map]; omega)
    obtain ⟨q2, hq2, c2⟩ := B.two.cells (i := i) (by rw [List.length_map]; omega)
    rw [List.getElem_map] at c1 c2
    have hent := B.ent es[i] (List.getElem_mem hlt)
    generalize es[i] = e at c1 c2 hent
    rw [show Int.toNat (i : Int) = i by omega]
    refine need_of ⟨by omega, by omega⟩ (osome_mk hq1 (loads_of ((e.p, e.l, e.c), ()) c1 ?_))
    dsimp only [flat, unc, unc1, List.nil_append, List.cons_append]
    refine osome_mk rfl ?_
    rw [add_box]
    refine loads_box hb ((pw, es.length, cw), ()) rfl ?_
    dsimp only [flat, unc, unc1, List.nil_append, List.cons_append]
    refine need_of ⟨by omega, by omega⟩ (osome_mk hq2 (loads_of ((e.q, e.l, e.d), ()) c2 ?_))
    refine call_bool (sameTS_hc (by have := hent.2.2; omega) hent.1 hent.2.1) ?_
    refine ⟨⟨hb.cells _ rfl, hb.cells _ rfl, hb.cells _ rfl, trivial⟩, ?_⟩
    refine osome_mk rfl ?_
    rw [add_box]
    refine stores_of hb rfl (by simp) ?_
    intro h5 hb5 k5 z5
    have hw : IntKind.wrap .i64 ((i : Int) + 1) = ((i + 1 : Nat) : Int) := by rw [wrap_i64 (by omega) (by omega)]; omega
    exact again_mk (cs := [(false, [.int .i64])]) (((i + 1 : Nat) : Int), ()) (es.length - (i + 1)) rfl (by omega) (congrArg (fun z => [Value.int .i64 z]) hw) ⟨i + 1, rfl, by omega, rfl, B.rebox k5 hb5, k1.trans k5 (fun j hj _ => hj)⟩
  · refine osome_mk rfl ?_
    rw [add_box]
    refine loads_box hb (false, ()) rfl ?_
    exact ⟨rfl, B, k1⟩
/-- The mark of a place. -/
def markB : ByteArray := ⟨#[109, 97, 114, 107]⟩
def mkN (i j : Int) : Int := IntKind.wrap .u32 ((IntKind.wrap .u32 ((IntKind.wrap .u32 i) * (65536 : Int))) + (IntKind.wrap .u32 j))
def mkL (k j : Nat) : List Value := [.string markB, .int .u32 (mkN k j)]
/-- A list's whole room, of which so much is marked. -/
def Room (h : Hp) (b : Nat) (p : Option Addr) (c k m : Nat) : Prop :=
  match p with
  | none => c = 0
  | some a => ∃ g o cells, a = ⟨g, o, none⟩ ∧ b ≤ g ∧ c < 9223372036854775808 ∧ Box h g 40 cells ∧ o + c * 2 ≤ cells.length ∧ ∀ j, j < m → (cells.drop (o + j * 2)).take 2 = mkL k j
theorem Room.of_SL {h : Hp} {b : Nat} {p : Option Addr} {l c : Nat} {xs : List (List Value)} (s : SL h b 40 2 p l c xs) (k : Nat) : Room h b p c k 0 := by
  cases p with
  | none => exact s.2.2.1
  | some a =>
    obtain ⟨g, pre, rest, rfl, hbg, hlc, hbox, hr⟩ := s.2.2
    have hx := flatten_length xs s.2.1
    have := s.1
    refine ⟨g, pre.length, _, rfl, hbg, hlc.2, hbox, ?_, fun j hj => by omega⟩
    rw [List.length_append, List.length_append, hx, hr, ← this]
    omega
theorem Room.keep {ws : List Nat} {h h' : Hp} {b : Nat} {p : Option Addr} {c k m : Nat} (r : Room h b p c k m) (kk : Ch ws h h') (hw : ∀ i, i ∈ blkOf p → i ∉ ws) : Room h' b p c k m := by
  cases p with
  | none => exact r
  | some a =>
    obtain ⟨g, o, cells, rfl, hbg, hc, hbox, hr, hm⟩ := r
    exact ⟨g, o, cells, rfl, hbg, hc, hbox.keep kk (hw g (by simp [blkOf])), hr, hm⟩
theorem setL_take {cells vs : List Value} {o n : Nat} (hv : vs.length = n) (h : o + n ≤ cells.length) : ((setL cells o vs).drop o).take n = vs := by
  rw [setL_eq _ _ _ (by omega), List.append_assoc]
  rw [List.drop_append_of_le_length (by rw [List.length_take]; omega), List.drop_of_length_le (by rw [List.length_take]; omega), List.nil_append, List.take_append_of_le_length (by omega), List.take_of_length_le (by omega)]
theorem setL_before {cells vs : List Value} {o o' n : Nat} (h : o + vs.length ≤ cells.length) (h' : o' + n ≤ o) : ((setL cells o vs).drop o').take n = (cells.drop o').take n := by
  rw [setL_eq _ _ _ (by omega), List.append_assoc]
  rw [List.drop_append_of_le_length (by rw [List.length_take]; omega), List.take_append_of_le_length (by rw [List.length_drop, List.length_take]; omega)]
  rw [List.drop_take, List.take_take, Nat.min_eq_left (by omega)]
theorem mark_hc (i j : Int) (h : Hp) : HC Try.prog 17 #[.int .i64 i, .int .i64 j] h fun v h' => v = .agg #[.string markB, .int .u32 (mkN i j)] ∧ Ext h h' := by
  refine hcr_of (args := [.int .i64 i, .int .i64 j]) mixed Try.func17 (by kernel_rfl) (t_spandrellaw11_mark_eq i j) ?_
  unfold t_spandrellaw11_mark
  refine newB ?_
  intro h1 b1 e1 z1
  refine need_of (by decide) ?_
  refine stores_of b1 rfl (by simp) ?_
  intro h2 b2 k2 z2
  have b2 : Box h2 h.size 40 [.string markB, .int .u32 (mkN i j)] := b2
  refine loads_box b2 (markB, mkN i j, ()) rfl ?_
  exact ⟨rfl, Ch.trans e1 k2 (fun i hi hl => by simp at hi; omega)⟩
/-- The state of a book while it is marked. -/
structure Marking (h : Hp) (gb b : Nat) (pl : Option Addr) (cl : Nat) (es : List Ent) (i m : Nat) : Prop where
  box : ∃ (v w : Value), Box h gb 51 [.slice pl es.length cl, v, w, .bool false]
  one : SL h b 33 1 pl es.length cl (es.map Ent.one)
  room : ∀ k, (hk : k < es.length) → Room h b es[k].p es[k].c k (if k < i then es[k].c else if k = i then m else 0)
theorem Marking.keep {ws : List Nat} {h h' : Hp} {gb b : Nat} {pl : Option Addr} {cl : Nat} {es : List Ent} {i m : Nat} (M : Marking h gb b pl cl es i m) (k : Ch ws h h') (h1 : gb ∉ ws) (h2 : ∀ i, i ∈ blkOf pl → i ∉ ws) (h3 : ∀ e, e ∈ es → ∀ i, i ∈ e.blks → i ∉ ws) :
    Marking h' gb b pl cl es i m := by
  obtain ⟨v, w, hb⟩ := M.box
  exact ⟨⟨v, w, hb.keep k h1⟩, M.one.keep' k h2, fun j hj => (M.room j hj).keep k fun x hx => h3 es[j] (List.getElem_mem hj) x (List.mem_append_left _ hx)⟩
theorem apart_hc {h : Hp} {gb b : Nat} {pl : Option Addr} {cl : Nat} {pw : Option Addr} {cw : Nat} {es : List Ent} (B : Book h gb b pl cl pw cw es) (hlen : es.length ≤ 4000) (hbs : b ≤ h.size) :
    HC Try.prog 16 #[.pointer (some ⟨gb, 0, none⟩), .func (Fn.func 17) #[] #[]] h fun v h' => v = .bool true ∧ Since b h h' := by
  refine hcr_of (args := [.pointer (some ⟨gb, 0, none⟩), .func (Fn.func 17) #[] #[]]) mixed Try.func16 (by kernel_rfl) (t_spandrelbook_Book_api_Term___Apart_s17_eq (some ⟨gb, 0, none⟩)) ?_
  unfold t_spandrelbook_Book_api_Term___Apart_s17
  refine call_of (stays_hc B hlen) ?_
  rintro _ h0 ⟨rfl, B0, k0⟩
  refine ⟨(true, ()), rfl, ?_⟩
  dsimp only [flat, unc, unc1, List.nil_append, List.cons_append]
  refine cond_f rfl ?_
  have s0 : Since b h h0 := Since.of k0 fun i hi _ => by simp at hi; subst hi; exact B.ge
  have M0 : Marking h0 gb b pl cl es 0 0 := by
    obtain ⟨held, hb⟩ := B0.box
    refine ⟨⟨_, _, hb⟩, B0.one, fun k hk => ?_⟩
    have := Room.of_SL (B0.ent es[k] (List.getElem_mem hk)).1 k
    rw [if_neg (by omega)]
    by_cases h : k = 0
    · rw [if_pos h]; exact this
    · rw [if_neg h]; exact this
  have hsz : h.size ≤ h0.size := k0.size
  have gpl := B.gpl
  have eg := B.eg
  have hge := B.ge
  have hpw : ∀ i j (hi : i < es.length) (hj : j < es.length), i ≠ j → ∀ x, x ∈ es[i].blks → x ∉ es[j].blks := by
    intro i j hi hj hij x hx
    rcases Nat.lt_or_ge i j with h1 | h1
    · exact (List.pairwise_iff_getElem.1 B.ee) i j hi hj h1 x hx
    · intro hx2
      exact (List.pairwise_iff_getElem.1 B.ee) j i hj hi (by omega) x hx2 hx
  have hlt := B.lt
  clear B B0
  -- the marking
  refine loop_of (cs := [(false, [.int .i64])]) (fun x n h' => ∃ i : Nat, x.1 = (i : Int) ∧ i ≤ es.length ∧ n = es.length - i ∧ Marking h' gb b pl cl es i 0 ∧ Since b h h' ∧ h.size ≤ h'.size) ((0 : Int), ()) es.length rfl ⟨0, rfl, by omega, by omega, M0, s0, hsz⟩ ?_
  clear M0 s0 hsz k0 h0
  rintro ⟨n1, ⟨⟩⟩ m0 h1 ⟨i, hi, hile, rfl, M, s1, z1⟩
  simp only at hi
  subst hi
  dsimp only [flat, unc, unc1, List.nil_append, List.cons_append]
  obtain ⟨v, w, hb⟩ := M.box
  refine osome_mk rfl (loads_box hb ((pl, es.length, cl), ()) rfl ?_)
  dsimp only [flat, unc, unc1, List.nil_append, List.cons_append]
  refine cond_mk (fun g1 => ?_) (fun g1 => ?_)
  · have g1 := of_decide_eq_true g1
    have hilt : i < es.length := by omega
    obtain ⟨q1, hq1, c1⟩ := M.one.cells (i := i) (by rw [List.length_map]; omega)
    rw [List.getElem_map] at c1
    rw [show Int.toNat (i : Int) = i by omega]
    refine osome_mk rfl (loads_box hb ((pl, es.length, cl), ()) rfl ?_)
    dsimp only [flat, unc, unc1, List.nil_append, List.cons_append]
    refine need_of ⟨by omega, by omega⟩ (osome_mk hq1 (loads_of ((es[i].p, es[i].l, es[i].c), ()) c1 ?_))
    dsimp only [flat, unc, unc1, List.nil_append, List.cons_append]
    refine osome_mk rfl (loads_box hb ((pl, es.length, cl), ()) rfl ?_)
    dsimp only [flat, unc, unc1, List.nil_append, List.cons_append]
    refine need_of ⟨by omega, by omega⟩ (osome_mk hq1 (loads_of ((es[i].p, es[i].l, es[i].c), ()) c1 ?_))
    dsimp only [flat, unc, unc1, List.nil_append, List.cons_append]
    refine need_of ⟨by omega, by omega, by omega⟩ ?_
    clear hb c1 hq1 q1
    refine loop_of (cs := [(false, [.int .i64])]) (fun x n h' => ∃ j : Nat, x.1 = (j : Int) ∧ j ≤ es[i].c ∧ n = es[i].c - j ∧ Marking h' gb b pl cl es i j ∧ Since b h h' ∧ h.size ≤ h'.size) ((0 : Int), ()) es[i].c rfl ⟨0, rfl, by omega, by omega, M, s1, z1⟩ ?_
    clear M s1 z1 v w
    rintro ⟨n2, ⟨⟩⟩ m1 h2 ⟨j, hj, hjle, rfl, M, s2, z2⟩
    simp only at hj
    subst hj
    dsimp only [flat, unc, unc1, List.nil_append, List.cons_append]
    refine cond_mk (fun g2 => ?_) (fun g2 => ?_)
    · have g2 := of_decide_eq_true g2
      have hjlt : j < es[i].c := by omega
      refine callv_of (cap := []) (by kernel_rfl) rfl (mark_hc i j h2) ?_
      rintro _ h3 ⟨rfl, e3⟩
      refine ⟨(markB, mkN i j, ()), rfl, ?_⟩
      dsimp only [flat, unc, unc1, List.nil_append, List.cons_append]
      have M3 := M.keep e3 (by simp) (by simp) (by simp)
      refine need_of ⟨by omega, by omega⟩ ?_
      have hroom := M3.room i hilt
      rw [if_neg (by omega), if_pos rfl] at hroom
      cases hp : es[i].p with
      | none =>
        rw [hp] at hroom
        have : es[i].c = 0 := hroom
        omega
      | some a =>
        rw [hp] at hroom
        obtain ⟨g, o, cells, rfl, hbg, hcm, hbox, hr, hm⟩ := hroom
        have hgb : g ∈ es[i].blks := by unfold Ent.blks; rw [hp]; simp [blkOf]
        rw [if_neg (by omega)]
        refine osome_mk (a := ⟨g, o, none⟩) (by rw [Option.map_some, add_box, Nat.add_zero]) ?_
        rw [add_box, show Int.toNat (j : Int) = j by omega]
        refine stores_of hbox rfl (by simp; omega) ?_
        intro h4 hb4 k4 z4
        have hw : IntKind.wrap .i64 ((j : Int) + 1) = ((j + 1 : Nat) : Int) := by rw [wrap_i64 (by omega) (by omega)]; omega
        have hcl : (setL cells (o + j * 2) (mkL i j)).length = cells.length := setL_length _ _ _
        refine again_mk (cs := [(false, [.int .i64])]) (((j + 1 : Nat) : Int), ()) (es[i].c - (j + 1)) rfl (by omega) (congrArg (fun z => [Value.int .i64 z]) hw) ⟨j + 1, rfl, by omega, rfl, ?_, ?_, ?_⟩
        · obtain ⟨v, w, hb⟩ := M3.box
          refine ⟨⟨v, w, hb.keep k4 ?_⟩, M3.one.keep' k4 fun x hx => ?_, fun k hk => ?_⟩
          · simp; exact fun e => (eg es[i] (List.getElem_mem hilt) g hgb).1 e.symm
          · simp; intro e; subst e; exact (eg es[i] (List.getElem_mem hilt) x hgb).2.1 hx
          · by_cases hki : k = i
            · subst hki
              rw [if_neg (by omega), if_pos rfl, hp]
              refine ⟨g, o, _, rfl, hbg, hcm, hb4, by rw [setL_length]; exact hr, fun j' hj' => ?_⟩
              by_cases hjj : j' = j
              · subst hjj
                exact setL_take rfl (by omega)
              · rw [← hm j' (by omega)]
                exact setL_before (vs := mkL k j) (by show _ + 2 ≤ _; omega) (by omega)
            · have := M3.room k hk
              rw [if_neg hki] at this ⊢
              refine this.keep k4 fun x hx => ?_
              simp; intro e; subst e
              exact hpw k i hk hilt hki x (List.mem_append_left _ hx) hgb
        · exact (s2.trans (Since.of e3 (by simp))).trans (Since.of k4 fun x hx _ => by simp at hx; subst hx; exact hbg)
        · have := e3.size; have := k4.size; omega
    · have g2 := of_decide_eq_false g2
      have hj : j = es[i].c := by omega
      subst hj
      have hw : IntKind.wrap .i64 ((i : Int) + 1) = ((i + 1 : Nat) : Int) := by rw [wrap_i64 (by omega) (by omega)]; omega
      refine again_mk (cs := [(false, [.int .i64])]) (((i + 1 : Nat) : Int), ()) (es.length - (i + 1)) rfl (by omega) (congrArg (fun z => [Value.int .i64 z]) hw) ⟨i + 1, rfl, by omega, rfl, ⟨M.box, M.one, fun k hk => ?_⟩, s2, z2⟩
      have := M.room k hk
      by_cases hki : k < i
      · rw [if_pos hki] at this
        rw [if_pos (by omega)]; exact this
      · rw [if_neg hki] at this
        by_cases hke : k = i
        · subst hke
          rw [if_pos rfl] at this
          rw [if_pos (by omega)]; exact this
        · rw [if_neg hke] at this
          rw [if_neg (by omega)]
          by_cases hk1 : k = i + 1
          · rw [if_pos hk1]; exact this
          · rw [if_neg hk1]; exact this
  · have g1 := of_decide_eq_false g1
    have hi : i = es.length := by omega
    subst hi
    clear hb
    -- the look
    refine loop_of (cs := [(false, [.bool]), (false, [.int .i64])]) (fun x n h' => ∃ i : Nat, x.2.1 = (i : Int) ∧ i ≤ es.length ∧ n = es.length - i ∧ Marking h' gb b pl cl es es.length 0 ∧ Since b h h' ∧ h.size ≤ h'.size) (false, (0 : Int), ()) es.length rfl ⟨0, rfl, by omega, by omega, M, s1, z1⟩ ?_
    clear M s1 z1 v w
    rintro ⟨b7, n8, ⟨⟩⟩ m0 h2 ⟨i, hi, hile', rfl, M, s1, z1⟩
    simp only at hi
    subst hi
    dsimp only [flat, unc, unc1, List.nil_append, List.cons_append]
    obtain ⟨v, w, hb⟩ := M.box
    refine osome_mk rfl (loads_box hb ((pl, es.length, cl), ()) rfl ?_)
    dsimp only [flat, unc, unc1, List.nil_append, List.cons_append]
    refine cond_mk (fun g2 => ?_) (fun g2 => ?_)
    · have g2 := of_decide_eq_true g2
      have hilt : i < es.length := by omega
      obtain ⟨q1, hq1, c1⟩ := M.one.cells (i := i) (by rw [List.length_map]; omega)
      rw [List.getElem_map] at c1
      rw [show Int.toNat (i : Int) = i by omega]
      refine osome_mk rfl (loads_box hb ((pl, es.length, cl), ()) rfl ?_)
      dsimp only [flat, unc, unc1, List.nil_append, List.cons_append]
      refine need_of ⟨by omega, by omega⟩ (osome_mk hq1 (loads_of ((es[i].p, es[i].l, es[i].c), ()) c1 ?_))
      dsimp only [flat, unc, unc1, List.nil_append, List.cons_append]
      refine osome_mk rfl (loads_box hb ((pl, es.length, cl), ()) rfl ?_)
      dsimp only [flat, unc, unc1, List.nil_append, List.cons_append]
      refine need_of ⟨by omega, by omega⟩ (osome_mk hq1 (loads_of ((es[i].p, es[i].l, es[i].c), ()) c1 ?_))
      dsimp only [flat, unc, unc1, List.nil_append, List.cons_append]
      refine need_of ⟨by omega, by omega, by omega⟩ ?_
      clear hb c1 hq1 q1
      refine loop_of (cs := [(false, [.bool]), (false, [.int .i64])]) (fun x n h' => ∃ j : Nat, x.2.1 = (j : Int) ∧ j ≤ es[i].c ∧ n = es[i].c - j ∧ Marking h' gb b pl cl es es.length 0 ∧ Since b h h' ∧ h.size ≤ h'.size) (b7, (0 : Int), ()) es[i].c rfl ⟨0, rfl, by omega, by omega, M, s1, z1⟩ ?_
      clear M s1 z1 v w
      rintro ⟨b29, n30, ⟨⟩⟩ m1 h3 ⟨j, hj, hjle, rfl, M, s2, z2⟩
      simp only at hj
      subst hj
      dsimp only [flat, unc, unc1, List.nil_append, List.cons_append]
      refine cond_mk (fun g3 => ?_) (fun g3 => ?_)
      · have g3 := of_decide_eq_true g3
        have hjlt : j < es[i].c := by omega
        refine need_of ⟨by omega, by omega⟩ ?_
        have hroom := M.room i hilt
        rw [if_pos hilt] at hroom
        cases hp : es[i].p with
        | none =>
          rw [hp] at hroom
          have : es[i].c = 0 := hroom
          omega
        | some a =>
          rw [hp] at hroom
          obtain ⟨g, o, cells, rfl, hbg, hcm, hbox, hr, hm⟩ := hroom
          rw [if_neg (by omega)]
          refine osome_mk (a := ⟨g, o, none⟩) (by rw [Option.map_some, add_box, Nat.add_zero]) ?_
          rw [add_box, show Int.toNat (j : Int) = j by omega]
          refine loads_box hbox (markB, mkN i j, ()) (hm j hjlt) ?_
          dsimp only [flat, unc, unc1, List.nil_append, List.cons_append]
          refine callv_of (cap := []) (by kernel_rfl) rfl (mark_hc i j h3) ?_
          rintro _ h4 ⟨rfl, e4⟩
          refine ⟨(markB, mkN i j, ()), rfl, ?_⟩
          dsimp only [flat, unc, unc1, List.nil_append, List.cons_append]
          refine ⟨⟨(hbox.keep e4 (by simp)).cells _ (hm j hjlt), trivial⟩, ?_⟩
          refine sem_bool (b := false) (fun K' hk => cmpTrm _ _ _ _ _ _ _ _ (by rw [bytes_beq]; simpa using hk)) ?_
          refine cond_f rfl ?_
          have hw : IntKind.wrap .i64 ((j : Int) + 1) = ((j + 1 : Nat) : Int) := by rw [wrap_i64 (by omega) (by omega)]; omega
          exact again_mk (cs := [(false, [.bool]), (false, [.int .i64])]) (b29, ((j + 1 : Nat) : Int), ()) (es[i].c - (j + 1)) rfl (by omega) (congrArg (fun z => [Value.bool b29, .int .i64 z]) hw)
            ⟨j + 1, rfl, by omega, rfl, M.keep e4 (by simp) (by simp) (by simp), s2.trans (Since.of e4 (by simp)), by have := e4.size; omega⟩
      · have hw : IntKind.wrap .i64 ((i : Int) + 1) = ((i + 1 : Nat) : Int) := by rw [wrap_i64 (by omega) (by omega)]; omega
        exact again_mk (cs := [(false, [.bool]), (false, [.int .i64])]) (b29, ((i + 1 : Nat) : Int), ()) (es.length - (i + 1)) rfl (by omega) (congrArg (fun z => [Value.bool b29, .int .i64 z]) hw) ⟨i + 1, rfl, by omega, rfl, M, s2, z2⟩
    · refine osome_mk rfl (stores_of hb rfl (by simp) ?_)
      intro h3 hb3 k3 z3
      refine osome_mk rfl ?_
      rw [add_box]
      refine stores_of hb3 rfl (by simp [setL]) ?_
      intro h4 hb4 k4 z4
      refine osome_mk rfl ?_
      rw [add_box]
      refine stores_of hb4 rfl (by simp [setL]) ?_
      intro h5 hb5 k5 z5
      have hs : ∀ {a c : Hp}, Ch [gb] a c → Since b a c := fun k => Since.of k fun x hx _ => by simp at hx; subst hx; exact hge
      exact ⟨rfl, ((s1.trans (hs k3)).trans (hs k4)).trans (hs k5)⟩
end Go.Sx.TB

set_option linter.unusedVariables false
set_option linter.unusedSimpArgs false
set_option maxRecDepth 100000
namespace Go.Sx
open Go.Proofs
section any
variable {P : Program} {h : Hp}
theorem bytesBack (a : Addr) (l : List UInt8) (cap : Nat) (K : Value → Hp → Prop) (hc : cellsAt h a 0 (l.map byteV)) (hk : K (.string ⟨l.toArray⟩) h) : semW P (Conv.bytesToString (.slice (some a) l.length cap)) h K := by
  unfold Conv.bytesToString
  simp only
  rw [semW_bind']
  refine semW_loadCells (by simp) hc _ ?_
  rw [semW_bind', ← Array.forIn_toList]
  have key : ∀ (l : List UInt8) (s : ByteArray) (K' : ByteArray → Hp → Prop), K' ⟨s.data ++ l.toArray⟩ h → semW P (forIn (l.map byteV) s fun c r => match c with
      | .int .u8 n => (pure (ForInStep.yield (r.push (UInt8.ofNat n.toNat))) : Sem (ForInStep ByteArray))
      | _ => stuck "bytesToString: byte expected") h K' := by
    intro l
    induction l with
    | nil =>
      intro s K' hk
      have e : (⟨s.data ++ ([] : List UInt8).toArray⟩ : ByteArray) = s := by simp
      rw [e] at hk
      exact hk
    | cons c l ih =>
      intro s K' hk
      rw [List.map_cons, List.forIn_cons]
      rw [semW_bind']
      show semW P (forIn (List.map byteV l) (s.push (UInt8.ofNat ((c.toNat : Nat) : Int).toNat)) _) h K'
      have e1 : UInt8.ofNat ((c.toNat : Nat) : Int).toNat = c := by simp
      rw [e1]
      refine ih (s.push c) K' ?_
      have : (⟨(s.push c).data ++ l.toArray⟩ : ByteArray) = ⟨s.data ++ (c :: l).toArray⟩ := by
        congr 1
        apply Array.toList_inj.1
        simp
      rw [this]; exact hk
  refine key l ByteArray.empty _ ?_
  have e : (⟨ByteArray.empty.data ++ l.toArray⟩ : ByteArray) = ⟨l.toArray⟩ := by
    congr 1
    apply Array.toList_inj.1
    simp
  rw [e]
  exact hk
theorem sliceArr_of {t e : TypeId} {n : Nat} {i : TypeInfo} (ht : P.underlying t = some (.array n e)) (hi : P.info? e = some i) (a : Addr) {k : IntKind} {m : Int} (h0 : 0 ≤ m) (h1 : m ≤ n) (K : Value → Hp → Prop) (hk : K (.slice (some a) m.toNat n) h) :
    semW P (Instr.sliceAt t (.pointer (some a)) none (some (.int k m)) none) h K := by
  unfold Instr.sliceAt
  rw [semW_bind', semW_underlying ht]
  show semW P (Instr.sliceBounds false n n none (some (.int k m)) none >>= fun x => (do let size ← sizeOf e; pure (.slice (some (if x.2.2 = x.1 then a else a.add (x.1 * size))) (x.2.1 - x.1) (x.2.2 - x.1)) : Sem Value)) h K
  rw [semW_bind', semW_sliceBounds (lo := none) (hi := some (.int k m)) false n n rfl rfl (Int.le_refl _) h0 h1]
  rw [semW_bind', semW_sizeOf hi]
  show K (.slice (some (if n = 0 then a else a.add (0 * P.cellsOf e))) (m.toNat - 0) (n - 0)) h
  have e1 : (if n = 0 then a else a.add (0 * P.cellsOf e)) = a := by simp [Addr.add]
  rw [e1]
  exact hk
end any
/-- The table of the powers of ten lies where it was laid. -/
def Pow10 (h : Hp) : Prop := ∃ e f, h[1]? = some (.cells (Lib.pow10Tab.map fun z => Value.int .u64 z).toArray e f)
theorem Pow10.keep {ws : List Nat} {h h' : Hp} (p : Pow10 h) (k : Ch ws h h') (hw : ∀ i, i ∈ ws → 1 < i) : Pow10 h' := by
  obtain ⟨e, f, hp⟩ := p
  exact ⟨e, f, k.get hp (fun hm => by have := hw _ hm; omega)⟩
theorem Pow10.lt {h : Hp} (p : Pow10 h) : 1 < h.size := by
  obtain ⟨e, f, hp⟩ := p
  exact lt_of_get hp
theorem tab_of {W : World} {name : String} (hg : Try.prog.globalNamed name = some 1) (p : Pow10 W.heap) : Lib.TabIs Try.prog W name .u64 Lib.pow10Tab := by
  obtain ⟨e, f, hp⟩ := p
  unfold Lib.TabIs World.var?
  rw [hg]
  show (match W.heap[1]? with | some (.cells cs _ _) => some cs | _ => none) = _
  rw [hp]
theorem und5 : Try.prog.underlying 5 = some (.int .u8) := by kernel_rfl
theorem info5 : (Try.prog.info? 5).isSome = true := by kernel_rfl
end Go.Sx

set_option linter.unusedVariables false
set_option linter.unusedSimpArgs false
set_option maxRecDepth 100000
namespace Go.Sx
open Go.Proofs
def decB (n : Nat) : ByteArray := ⟨(Lib.decDigits n).toArray⟩
def pieceL (t : ByteArray × Nat) : ByteArray := if t.2 = 1 then t.1 else (decB t.2 ++ ⟨#[42]⟩) ++ t.1
def tailL (x : Lin) : List ByteArray := if x.num ≠ 0 ∨ x.terms = [] then [decB x.num] else []
theorem dec_size {n : Nat} (h : n < 4294967296) : (decB n).size ≤ 20 := by
  have e : (decB n).size = Lib.nDigits n := by
    show (Lib.decDigits n).toArray.size = _
    rw [List.size_toArray, Lib.decDigits_length]
  rw [e]
  by_cases h0 : n = 0
  · subst h0; rw [Lib.nDigits_small (by omega)]; omega
  · have := Lib.numDigits_eq n (by omega) (by omega)
    split at this <;> omega
theorem ba_size_append (a b : ByteArray) : (a ++ b).size = a.size + b.size := by simp
theorem piece_size {t : ByteArray × Nat} (h : t.1.size ≤ 32) (k : t.2 < 4294967296) : (pieceL t).size ≤ 53 := by
  unfold pieceL
  split
  · omega
  · have := dec_size k
    rw [ba_size_append, ba_size_append]
    have : (⟨#[42]⟩ : ByteArray).size = 1 := rfl
    omega
theorem und44 : Try.prog.underlying 29 = some (.slice 9) := by kernel_rfl
theorem strZ9 : (Try.prog.info? 9).map (fun i => (i.zero, i.size, i.bytes)) = some (some (.string ⟨#[]⟩), 1, 16) := by kernel_rfl
end Go.Sx

set_option linter.unusedVariables false
set_option linter.unusedSimpArgs false
set_option maxRecDepth 100000
namespace Go.Sx
open Go.Proofs
theorem wf_lexAt {s : ByteArray} {a k' : Nat} {t : Tok} (ha : a ≤ s.size) (h : lexAt s a = .tok t k') : WfT t := by
  have hsz : s.data.toList.length = s.size := by simp
  unfold lexAt at h
  split at h
  · cases h
  split at h
  · cases h
  have hlen : (s.data.toList.drop a).length = s.size - a := by rw [List.length_drop, hsz]
  split at h
  · rename_i h1 h2 h3
    split at h
    · cases h
    · rename_i h4
      cases h
      refine ⟨by simp, fun _ => ⟨rfl, ?_⟩⟩
      have h5 := rowN_le (s.data.toList.drop a) gluedL
      have h0 : (s.data.toList.drop a).getD 0 0 = s.data.toList.getD a 0 := by simp [List.getD]
      have h6 := (rowN_pos (s := s.data.toList.drop a) (set := gluedL) (by omega)).2 (by
        rw [h0]
        show (lettersL ++ digitsL).contains _ = true
        rw [glued_is, h3]; rfl)
      have e : (s.extract a (a + rowN (s.data.toList.drop a) gluedL)).data.toList = (s.data.toList.drop a).take (rowN (s.data.toList.drop a) gluedL) := by
        rw [ext_list, show a + rowN (s.data.toList.drop a) gluedL - a = rowN (s.data.toList.drop a) gluedL by omega]
      show legalL (s.extract a (a + rowN (s.data.toList.drop a) gluedL)).data.toList = !(regL (s.extract a (a + rowN (s.data.toList.drop a) gluedL)).data.toList).2.2
      rw [e]
      unfold legalL
      have l1 : ((s.data.toList.drop a).take (rowN (s.data.toList.drop a) gluedL)).length = rowN (s.data.toList.drop a) gluedL := by rw [List.length_take]; omega
      have l2 : ((s.data.toList.drop a).take (rowN (s.data.toList.drop a) gluedL)).getD 0 0 = s.data.toList.getD a 0 := by rw [← h0]; exact getD_take (by omega)
      have l3 : ((s.data.toList.drop a).take (rowN (s.data.toList.drop a) gluedL)).all (fun c => isLet c || isDig c) = true := by
        refine List.all_eq_true.2 fun c hc => ?_
        obtain ⟨i, hi, rfl⟩ := List.getElem_of_mem hc
        rw [l1] at hi
        have h7 := rowN_get hi
        have h8 : (lettersL ++ digitsL).contains ((s.data.toList.drop a).getD i 0) = true := h7
        rw [glued_is] at h8
        rw [List.getElem_take]
        rw [List.getD, List.getElem?_eq_getElem (by omega)] at h8
        exact h8
      rw [l1, l2, l3, h3, decide_eq_true (by omega), decide_eq_true (by omega)]
      rfl
  split at h
  · split at h
    · cases h
    · cases h
      exact ⟨(numL_le _).2, by simp⟩
  split at h
  · split at h
    · cases h
    · cases h
      exact ⟨by show (s.data.toList.getD (a + 1) 0).toNat < 4294967296; have := (s.data.toList.getD (a + 1) 0).toNat_lt; omega, by simp⟩
  split at h
  · cases h
    exact ⟨by simp, by simp⟩
  · cases h
theorem wf_lexF {s : ByteArray} : ∀ (f k : Nat) (acc : List Tok), k ≤ s.size → Wf acc → Wf (lexF s f k acc).1
  | 0, k, acc, hk, w => w
  | f + 1, k, acc, hk, w => by
    unfold lexF
    cases h : lexStep s k with
    | stop => exact w
    | wrong a => intro t ht; simp at ht
    | tok t k' =>
      simp only
      have h1 := lexStep_tok hk h
      have hle : k + rowN (s.data.toList.drop k) blanksL ≤ s.size := by
        have := rowN_le (s.data.toList.drop k) blanksL
        rw [List.length_drop] at this
        have hsz : s.data.toList.length = s.size := by simp
        omega
      refine wf_lexF f k' _ h1.2 ?_
      intro u hu
      rcases List.mem_append.1 hu with hu | hu
      · exact w u hu
      · rw [List.mem_singleton] at hu
        subst hu
        exact wf_lexAt hle h
theorem wf_lexS (s : ByteArray) : Wf (lexS s).1 := wf_lexF _ 0 [] (Nat.zero_le _) (by intro t ht; simp at ht)
/-! expr.Value. -/
def valN (f : ByteArray → Option Nat) : Nat → Tms → Nat × Bool
  | n, [] => (n, true)
  | n, t :: r => match f t.1 with
    | none => (0, false)
    | some v => valN f ((n + t.2 * v % 4294967296) % 4294967296) r
theorem valN_cons (f : ByteArray → Option Nat) (n : Nat) (t : ByteArray × Nat) (r : Tms) : valN f n (t :: r) = match f t.1 with
    | none => (0, false)
    | some v => valN f ((n + t.2 * v % 4294967296) % 4294967296) r := rfl
def getO (D : Tms) (s : ByteArray) : Option Nat := (D.find? fun p => decide (s = p.1)).map (·.2)
/-- A map, or none. -/
def MapV (h : Hp) (r : Option Nat) (D : Tms) : Prop := match r with
  | none => D = []
  | some g => MapB h g (vm D)
theorem MapV.keep {ws : List Nat} {h h' : Hp} {r : Option Nat} {D : Tms} (m : MapV h r D) (k : Ch ws h h') (hw : ∀ g, r = some g → g ∉ ws) : MapV h' r D := by
  cases r with
  | none => exact m
  | some g => exact MapB.keep m k (hw g rfl)
theorem lookb_of {L : Lp} {K : Value → Hp → Prop} {h : Hp} {r : Option Nat} {D : Tms} (m : MapV h r D) (s : ByteArray) {k : Int → Bool → T} (hk : k (((getO D s).getD 0 : Nat) : Int) (getO D s).isSome L K h) :
    T.sem Try.prog (Instr.lookup 31 (.map r) (.string s) true) true [(false, [.int .u32]), (false, [.bool])] k L K h := by
  cases r with
  | none =>
    have m : D = [] := m
    subst m
    refine lookup_nil und78 und9 info33 s true _ ?_
    exact ⟨((0 : Int), false, ()), rfl, hk⟩
  | some g =>
    refine lookup_of und78 und9 info33 m s true _ ?_
    refine ⟨((((getO D s).getD 0 : Nat) : Int), (getO D s).isSome, ()), ?_, hk⟩
    rw [if_pos rfl, look_vm]
    unfold getO
    cases D.find? fun p => decide (s = p.1) <;> rfl
theorem value_hc {h : Hp} {p : Option Addr} {l c : Nat} {x : Lin} (v : VwT h p l x.terms) {r : Option Nat} {D : Tms} (m : MapV h r D) (hl : x.terms.length ≤ 2 ^ 40) :
    HC Try.prog 11 #[linV p l c x, .map r] h fun w h' => w = .tuple #[.int .u32 ((valN (getO D) x.num x.terms).1 : Int), .bool (valN (getO D) x.num x.terms).2] ∧ Ext h h' := by
  refine hcr_of (args := [.agg #[.slice p l c, .int .u32 x.num], .map r]) mixed Try.func11 (by kernel_rfl) (t_expr_Value_eq p l c x.num r) ?_
  unfold t_expr_Value
  have hll := v.len
  refine newB ?_
  intro h1 b1 e1 z1
  rw [add_box]
  refine loads_box b1 ((x.num : Int), ()) rfl ?_
  dsimp only [flat, unc, unc1, List.nil_append, List.cons_append]
  refine loads_box b1 ((p, l, c), ()) rfl ?_
  dsimp only [flat, unc, unc1, List.nil_append, List.cons_append]
  refine loop_of (cs := [(false, [.int .u32]), (false, [.bool]), (false, [.int .u32]), (false, [.int .i64])]) (fun y w h' => ∃ (i n : Nat), y.2.2.2.1 = (i : Int) ∧ y.2.2.1 = (n : Int) ∧ i ≤ x.terms.length ∧ w = x.terms.length - i ∧ Ext h1 h' ∧ valN (getO D) x.num x.terms = valN (getO D) n (x.terms.drop i))
    ((0 : Int), false, (x.num : Int), (0 : Int), ()) x.terms.length rfl ⟨0, x.num, rfl, rfl, by omega, by omega, Ch.refl _ _, rfl⟩ ?_
  rintro ⟨n7, b8, n9, n10, ⟨⟩⟩ w h2 ⟨i, n, hi, hn, hile, rfl, e2, hv⟩
  simp only at hi hn
  subst hi
  subst hn
  dsimp only [flat, unc, unc1, List.nil_append, List.cons_append]
  have e02 := e1.trans e2
  have m2 := m.keep e02 (by simp)
  refine cond_mk (fun g1 => ?_) (fun g1 => ?_)
  · have g1 := of_decide_eq_true g1
    have hilt : i < x.terms.length := by omega
    obtain ⟨a, rfl, hc⟩ := (v.keep e02 (by simp)).cells i hilt
    have hdr : x.terms.drop i = x.terms[i] :: x.terms.drop (i + 1) := List.drop_eq_getElem_cons hilt
    generalize x.terms[i] = t at hc hdr
    rw [hdr] at hv
    refine need_of ⟨by omega, by omega⟩ (osome_mk rfl ?_)
    rw [show Int.toNat (i : Int) = i by omega]
    refine loads_of (t.1, (t.2 : Int), ()) hc ?_
    dsimp only [flat, unc, unc1, List.nil_append, List.cons_append]
    refine newB ?_
    intro h3 b3 e3 z3
    refine stores_of b3 rfl (by simp) ?_
    intro h4 b4 k4 z4
    have b4 : Box h4 h2.size 40 [.string t.1, .int .u32 t.2] := b4
    have e24 : Ext h2 h4 := Ch.trans e3 k4 (fun j hj hl => by simp at hj; omega)
    refine loads_box b4 (t.1, ()) rfl ?_
    dsimp only [flat, unc, unc1, List.nil_append, List.cons_append]
    refine lookb_of (m2.keep e24 (by simp)) t.1 ?_
    rw [valN_cons] at hv
    refine cond_mk (fun g2 => ?_) (fun g2 => ?_)
    · have g2 : getO D t.1 = none := by simpa using g2
      rw [g2] at hv
      refine ⟨?_, e02.trans e24⟩
      rw [hv]
      rfl
    · obtain ⟨u, hu⟩ : ∃ u, getO D t.1 = some u := Option.isSome_iff_exists.1 (by simpa using g2)
      rw [hu] at hv
      rw [add_box]
      refine loads_box b4 ((t.2 : Int), ()) rfl ?_
      dsimp only [flat, unc, unc1, List.nil_append, List.cons_append]
      have hw : IntKind.wrap .i64 ((i : Int) + 1) = ((i + 1 : Nat) : Int) := by rw [wrap_i64 (by omega) (by omega)]; omega
      have hw2 : IntKind.wrap .u32 ((n : Int) + IntKind.wrap .u32 ((t.2 : Int) * (((getO D t.1).getD 0 : Nat) : Int))) = (((n + t.2 * u % 4294967296) % 4294967296 : Nat) : Int) := by
        rw [hu, wrap_u32_mod, wrap_u32_mod, cast_mod, Int.natCast_add, cast_mod, Int.natCast_mul]
        rfl
      rw [hw, hw2]
      exact again_mk (cs := [(false, [.int .u32]), (false, [.bool]), (false, [.int .u32]), (false, [.int .i64])]) (n7, b8, (((n + t.2 * u % 4294967296) % 4294967296 : Nat) : Int), ((i + 1 : Nat) : Int), ()) (x.terms.length - (i + 1)) rfl (by omega) rfl ⟨i + 1, _, rfl, rfl, by omega, rfl, e2.trans e24, hv⟩
  · have g1 := of_decide_eq_false g1
    have hi : i = x.terms.length := by omega
    subst hi
    rw [List.drop_length] at hv
    refine ⟨?_, e02⟩
    rw [hv]
    rfl
/-! Texts read. -/
theorem enc_cells {h : Hp} {b : Addr} {t : Tok} (hc : cellsAt h b 0 (enc t)) : cellsAt h b 0 [.int .i64 (t.kind : Int)] ∧ cellsAt h (b.add 1) 0 [.string t.text] ∧ cellsAt h (b.add 2) 0 [.int .u32 (t.num : Int)] ∧ cellsAt h (b.add 3) 0 [.int .i64 (t.at_ : Int)] := by
  obtain ⟨h1, h2, h3, h4, h5⟩ := hc
  exact ⟨⟨h1, trivial⟩, ⟨by rw [add_add]; exact h2, trivial⟩, ⟨by rw [add_add]; exact h3, trivial⟩, ⟨by rw [add_add]; exact h4, trivial⟩⟩
end Go.Sx

set_option linter.unusedVariables false
set_option linter.unusedSimpArgs false
set_option maxRecDepth 100000
namespace Go.Sx
open Go.Proofs
def valS (f : ByteArray → Nat) : Tms → Nat
  | [] => 0
  | p :: l => p.2 * f p.1 + valS f l
theorem valS_cons (f : ByteArray → Nat) (p : ByteArray × Nat) (l : Tms) : valS f (p :: l) = p.2 * f p.1 + valS f l := rfl
theorem valN_all {f : ByteArray → Option Nat} : ∀ (l : Tms) (n : Nat), n < 4294967296 → (∀ t, t ∈ l → (f t.1).isSome = true) → valN f n l = ((n + valS (fun s => (f s).getD 0) l) % 4294967296, true)
  | [], n, hn, _ => by simp [valN, valS, Nat.mod_eq_of_lt hn]
  | t :: r, n, hn, h => by
    obtain ⟨v, hv⟩ := Option.isSome_iff_exists.1 (h t (List.mem_cons_self ..))
    rw [valN_cons, hv]
    dsimp only
    rw [valN_all r _ (Nat.mod_lt _ (by decide)) (fun u hu => h u (List.mem_cons_of_mem _ hu)), valS_cons, hv, Option.getD_some]
    congr 1
    omega
theorem mod_mul' (a b : Nat) : a % 4294967296 * b % 4294967296 = a * b % 4294967296 := by rw [Nat.mul_mod, Nat.mod_mod, ← Nat.mul_mod]
theorem valS_timesN (f : ByteArray → Nat) (n : Nat) : ∀ l : Tms, valS f (timesN n l) % 4294967296 = valS f l * n % 4294967296
  | [] => by simp [timesN, valS]
  | p :: l => by
    have ih := valS_timesN f n l
    have h1 := mod_mul' (p.2 * n) (f p.1)
    have h2 : (p.2 * f p.1 + valS f l) * n = p.2 * n * f p.1 + valS f l * n := by rw [Nat.add_mul, Nat.mul_right_comm]
    have hc : timesN n (p :: l) = if p.2 * n % 4294967296 = 0 then timesN n l else (p.1, p.2 * n % 4294967296) :: timesN n l := by
      unfold timesN
      rw [List.filterMap_cons]
      split
      · rename_i hg
        split at hg
        · rename_i h0
          rw [if_pos h0]
        · cases hg
      · rename_i hg
        split at hg
        · cases hg
        · rename_i h0
          cases hg
          rw [if_neg h0]
    rw [hc, valS_cons, h2]
    split
    · rename_i h0
      rw [h0, Nat.zero_mul] at h1
      omega
    · rw [valS_cons]
      dsimp only
      omega
theorem valS_addF (f : ByteArray → Nat) {n : Nat} {x y : Tms} (hn : x.length + y.length ≤ n) : valS f (addF n x y) % 4294967296 = (valS f x + valS f y) % 4294967296 := by
  induction n generalizing x y with
  | zero =>
    have h1 : x = [] := List.length_eq_zero_iff.1 (by omega)
    have h2 : y = [] := List.length_eq_zero_iff.1 (by omega)
    subst h1 h2
    rfl
  | succ n ih =>
    rcases x with _ | ⟨p, x⟩ <;> rcases y with _ | ⟨q, y⟩
    · rfl
    · simp only [addF, valS]
      have := ih (x := []) (y := y) (by simp at hn ⊢; omega)
      simp only [valS] at this
      omega
    · simp only [addF, valS]
      have := ih (x := x) (y := []) (by simp at hn ⊢; omega)
      simp only [valS] at this
      omega
    · simp only [List.length_cons] at hn
      simp only [addF]
      split
      · have := ih (x := x) (y := q :: y) (by simp; omega)
        simp only [valS] at this ⊢
        omega
      · rename_i h1
        split
        · have := ih (x := p :: x) (y := y) (by simp; omega)
          simp only [valS] at this ⊢
          omega
        · rename_i h2
          have he := ltN_tri _ _ h1 h2
          have := ih (x := x) (y := y) (by omega)
          have h3 := mod_mul' (p.2 + q.2) (f p.1)
          rw [Nat.add_mul] at h3
          split
          · rename_i h0
            rw [h0, Nat.zero_mul] at h3
            simp only [valS, ← he]
            omega
          · simp only [valS, ← he]
            omega
theorem valS_addM (f : ByteArray → Nat) (x y : Tms) : valS f (addM x y) % 4294967296 = (valS f x + valS f y) % 4294967296 := valS_addF f (Nat.le_refl _)
theorem valN_none {t : ByteArray × Nat} {r : Tms} (n : Nat) : valN (getO []) n (t :: r) = (0, false) := rfl
theorem getO_isSome_putN (D : Tms) (t : ByteArray) (v : Nat) (s : ByteArray) (h : s = t ∨ (getO D s).isSome = true) : (getO (putN D t v) s).isSome = true := by
  unfold getO putN at *
  simp only [Option.isSome_map] at h ⊢
  rw [List.find?_isSome] at *
  split
  · rename_i hs
    rw [List.find?_isSome] at hs
    rcases h with rfl | ⟨p, hp, he⟩
    · obtain ⟨p, hp, he⟩ := hs
      refine ⟨(p.1, v), List.mem_map.2 ⟨p, hp, ?_⟩, he⟩
      rw [if_pos (of_decide_eq_true he)]
    · refine ⟨if t = p.1 then (p.1, v) else p, List.mem_map.2 ⟨p, hp, rfl⟩, ?_⟩
      split <;> exact he
  · rcases h with rfl | ⟨p, hp, he⟩
    · exact ⟨(s, v), by simp, by simp⟩
    · exact ⟨p, by simp [hp], he⟩
/-! Sums in any order. -/
theorem linA_ext {x y : Lin} (hx : Nf x.terms) (hy : Nf y.terms) (h : ∀ s, cf x.terms s % 4294967296 = cf y.terms s % 4294967296) (hn : x.num = y.num) : x = y := by
  cases x; cases y
  simp only at hn
  subst hn
  simp only at h hx hy
  rw [Nf.uniq hx hy h]
theorem linA_nf {x y : Lin} (hx : Nf x.terms) (hy : Nf y.terms) : Nf (linA x y).terms := addM_nf hx hy
theorem linT_nf {x : Lin} (hx : Nf x.terms) (n : Nat) : Nf (linT x n).terms := timesN_nf hx
theorem linA_group {x y z : Lin} (hx : Nf x.terms) (hy : Nf y.terms) (hz : Nf z.terms) : linA (linA x y) z = linA y (linA z x) := by
  refine linA_ext (linA_nf (linA_nf hx hy) hz) (linA_nf hy (linA_nf hz hx)) (fun s => ?_) ?_
  · have h1 := cf_addM (linA x y).terms z.terms s
    have h2 := cf_addM x.terms y.terms s
    have h3 := cf_addM y.terms (linA z x).terms s
    have h4 := cf_addM z.terms x.terms s
    show cf (addM (linA x y).terms z.terms) s % 4294967296 = cf (addM y.terms (linA z x).terms) s % 4294967296
    have e1 : (linA x y).terms = addM x.terms y.terms := rfl
    have e2 : (linA z x).terms = addM z.terms x.terms := rfl
    rw [e1] at h1 ⊢
    rw [e2] at h3 ⊢
    omega
  · show ((x.num + y.num) % 4294967296 + z.num) % 4294967296 = (y.num + (z.num + x.num) % 4294967296) % 4294967296
    omega
theorem linT_sum {x y : Lin} (hx : Nf x.terms) (hy : Nf y.terms) (n : Nat) : linA (linT x n) (linT y n) = linT (linA x y) n := by
  refine linA_ext (linA_nf (linT_nf hx n) (linT_nf hy n)) (linT_nf (linA_nf hx hy) n) (fun s => ?_) ?_
  · have h1 := cf_addM (timesN n x.terms) (timesN n y.terms) s
    have h2 := cf_timesN n x.terms s
    have h3 := cf_timesN n y.terms s
    have h4 := cf_timesN n (addM x.terms y.terms) s
    have h5 := cf_addM x.terms y.terms s
    have h6 := mod_mul' (cf (addM x.terms y.terms) s) n
    have h7 := mod_mul' (cf x.terms s + cf y.terms s) n
    rw [h5] at h6
    have h8 : (cf x.terms s + cf y.terms s) * n = cf x.terms s * n + cf y.terms s * n := Nat.add_mul ..
    show cf (addM (timesN n x.terms) (timesN n y.terms)) s % 4294967296 = cf (timesN n (addM x.terms y.terms)) s % 4294967296
    omega
  · show (x.num * n % 4294967296 + y.num * n % 4294967296) % 4294967296 = (x.num + y.num) % 4294967296 * n % 4294967296
    rw [mod_mul', Nat.add_mul]
    omega
theorem linA_zero {x : Lin} (hx : Nf x.terms) : linA x (linT x 4294967295) = linZ := by
  refine linA_ext (linA_nf hx (linT_nf hx _)) Nf.nil (fun s => ?_) ?_
  · have h1 := cf_addM x.terms (timesN 4294967295 x.terms) s
    have h2 := cf_timesN 4294967295 x.terms s
    show cf (addM x.terms (timesN 4294967295 x.terms)) s % 4294967296 = 0 % 4294967296
    omega
  · show (x.num + x.num * 4294967295 % 4294967296) % 4294967296 = 0
    omega
end Go.Sx

set_option linter.unusedVariables false
set_option maxRecDepth 100000
namespace Go.Sx
open Go.Proofs Go.Proofs.Ytpbjlnlekobodaa
open Go.ChangeShapes Go.WideShapes Go.ChangeAt Go.WideMaps Go.WideElems Go.RowKit
theorem ownK : ownKnob Try.prog.godebug = none := by kernel_rfl
theorem u9 : Try.prog.underlying 9 = some .string := by kernel_rfl
theorem u4 : Try.prog.underlying 4 = some .bool := by kernel_rfl
/-- What a call over heaps is, of a world: a call that leaves what was there. -/
theorem calls_of {P : Program} {f : FuncId} {args : Array Value} {W : World} {R : Value → Hp → Prop} (h : HC P f args W.heap R) (he : ∀ v h', R v h' → Ext W.heap h') : Calls P f args W fun e w' => ∃ v, e = .returned v ∧ Below W.heap.size W w' ∧ R v w'.heap := by
  refine (h W rfl).mono fun e w' ⟨v, hv, hs, hr⟩ => ⟨v, hv, ⟨hs.os, hs.tape, hs.output, (he v _ hr).size, fun k hk => (he v _ hr).same k hk (by simp)⟩, hr⟩
theorem post_new {H : Type} {enc : TypeId × Value → H} {P : Program} {f : Func} {s : ChangeSpec} {apart fresh handsOn again : Bool} {W W' : World} {args : Array Value} {v : Value} {ds gs : List (DataW H)}
    (hW : DataW.Whole enc P f.params.toList s.vars apart W args.toList ds gs [])
    (hres : ∀ (b : Nat) (sp : Nat → Bool) (hd : Bool), DataW.TrodAll enc P W' b sp hd f.resultTypes.toList (v.resultList f.resultTypes.size) (s.fn H (ds ++ gs)).results [])
    (hargs : ∀ sp : Nat → Bool, DataW.TrodAll enc P W' 0 sp true f.params.toList args.toList (s.fn H (ds ++ gs)).args [])
    (hvars : ∀ sp : Nat → Bool, DataW.TrodVars enc P W' sp s.vars (s.fn H (ds ++ gs)).vars [])
    (hk : Below W.heap.size W W')
    (hok : ∀ (j : Nat) (t : TypeId) (r : Value), f.resultTypes[j]? = some t → (v.resultList f.resultTypes.size)[j]? = some r → Value.okWide P W' .any 0 t r) :
    s.post enc P f apart fresh handsOn again W args v W' := by
  refine ⟨ds, gs, [], [], [], [], hW, hres _ _ _, hargs _, hvars _, hk.frame _, fun _ => ?_⟩
  refine ⟨hok, _, _, ([] ++ []) ++ [], ⟨[] ++ [], [], trodAll_append (hargs _) (hres _ _ _), hvars _, rfl, ?_, ?_⟩, ?_⟩
  · intro b off hp; simp at hp
  · intro ha; simp
  · intro p hp _; simp at hp
end Go.Sx

set_option linter.unusedVariables false
set_option maxRecDepth 100000
namespace Go.Sx
open Go.Proofs Go.Proofs.Ytpbjlnlekobodaa
open Go.ChangeShapes Go.WideShapes Go.ChangeAt Go.WideMaps Go.WideElems Go.RowKit
theorem kidsT : Kids Try.prog (· < Try.prog.types.size) := kids_rows (by kernel_rfl) (by kernel_rfl)
theorem sliceB : ((List.range Try.prog.types.size).all fun t => match Try.prog.underlying t with | some (.slice e) => decide (0 < Try.prog.cellsOf e) | _ => true) = true := by kernel_rfl
theorem sliceT {t e : TypeId} (ht : t < Try.prog.types.size) (hu : Try.prog.underlying t = some (.slice e)) : 0 < Try.prog.cellsOf e := by
  have := List.all_eq_true.1 sliceB t (List.mem_range.2 ht)
  rw [hu] at this
  exact of_decide_eq_true this
theorem below_same {W W' : World} (hB : Below W.heap.size W W') {p : MemPlace} (hp : p.block < W.heap.size) : W.sameAt W' p := by
  cases p with
  | cell b off =>
    show W'.cell? _ = W.cell? _
    unfold World.cell?
    rw [hB.block b hp]
  | map b => exact hB.block b hp
theorem trodAll_stays {H : Type} {enc : TypeId × Value → H} {W W' : World} {sp : Nat → Bool} (hB : Below W.heap.size W W') : ∀ {ts : List TypeId} {vs : List Value} {ds : List (DataW H)} {ps : List MemPlace}, (∀ t ∈ ts, t < Try.prog.types.size) →
    DataW.TrodAll enc Try.prog W 0 (fun _ => true) true ts vs ds ps → (∀ p ∈ ps, p.block < W.heap.size) → (∀ p ∈ ps, sp p.block = true) → DataW.TrodAll enc Try.prog W' 0 sp true ts vs ds ps
  | [], _, _, _, _, h, _, _ => by
    obtain ⟨rfl, rfl, rfl⟩ := trodAll_nil h
    exact trodAll_mk0
  | t :: ts, _, _, _, ht, h, hl, hs => by
    obtain ⟨v, vs1, d, ds1, a, b, rfl, rfl, rfl, ⟨n, h1⟩, h2⟩ := trodAll_cons h
    exact ⟨a, b, ⟨n, DataW.trod_stays kidsT (fun h hu => sliceT h hu) (fun h => by cases h) (ht t (List.mem_cons_self ..)) h1 (fun p hp => below_same hB (hl p (List.mem_append_left _ hp))) (fun p hp => hs p (List.mem_append_left _ hp))⟩,
      trodAll_stays hB (fun t h => ht t (List.mem_cons_of_mem _ h)) h2 (fun p hp => hl p (List.mem_append_right _ hp)) (fun p hp => hs p (List.mem_append_right _ hp)), rfl⟩
/-- A law's post: it answers, what was handed in reads as it did. -/
theorem post_old {H : Type} {enc : TypeId × Value → H} {f : Func} {s : ChangeSpec} {apart fresh handsOn : Bool} {W W' : World} {args : Array Value} {v : Value} {ds gs : List (DataW H)} {before : List MemPlace} (hv0 : s.vars = [])
    (hW : DataW.Whole enc Try.prog f.params.toList s.vars apart W args.toList ds gs before)
    (hres : ∀ (b : Nat) (sp : Nat → Bool) (hd : Bool), DataW.TrodAll enc Try.prog W' b sp hd f.resultTypes.toList (v.resultList f.resultTypes.size) (s.fn H (ds ++ gs)).results [])
    (hargs : (s.fn H (ds ++ gs)).args = ds) (hvs : (s.fn H (ds ++ gs)).vars = []) (hts : ∀ t ∈ f.params.toList, t < Try.prog.types.size) (hB : Below W.heap.size W W') :
    s.post enc Try.prog f apart fresh handsOn false W args v W' := by
  have hlt := hW.lt
  have hW' := hW
  obtain ⟨p, q, hA, hV, rfl, hz, hn⟩ := hW
  rw [hv0] at hV
  obtain ⟨rfl, rfl⟩ := trodVars_none hV
  rw [List.append_nil] at hlt hW'
  refine ⟨ds, [], p, [], p, [], hW', hres _ _ _, ?_, ?_, hB.frame _, fun h => by cases h⟩
  · rw [hargs]
    exact trodAll_stays hB hts hA hlt (fun p hp => decide_eq_true (hlt p hp))
  · rw [hvs, hv0]
    rfl
/-- A row with a condition upon what it reads. -/
theorem ret_cond {H : Type} {enc : TypeId × Value → H} {a : Assume} {C : Checked} {os : Os} {f : FuncId} {fn : Func} {s : OpenSpec} {k : (H : Type) → List (DataW H) → Bool} (hk : s.cond = some k) {F : Stop.Interp} {conds : List PathCond} {apart fresh handsOn again : Bool} {X : World → Array Value → Prop}
    (hX : ∀ (w w' : World) (args : Array Value), w.heap = w'.heap → X w args → X w' args)
    (own : ownKnob C.prog.godebug = none) (started : os.Started) (noInit : C.prog.inits.idxOf? f = none) (hfn : C.prog.funcs[f]? = some fn)
    (witness : ∃ (w : World) (tape : Tape) (i : Input), w.os = os ∧ (w.forCall tape i).Shaped C.prog ∧ i.vars = [] ∧ Input.okWide C.prog (w.forCall tape i) .any w.heap.size f i ∧
      ((s.pre enc C.prog fn conds apart (w.forCall tape i).memory i.args ∧ X (w.forCall tape i).memory i.args) ∧ sizedMet enc C.prog fn s apart (w.forCall tape i).memory i.args) ∧ a.holds C.prog (lone (Frame.enter C.prog f i.args .normal) [] (w.forCall tape i)))
    (contract : ∀ (W : World) (base : Nat) (args : Array Value) (ds gs : List (DataW H)) (before : List MemPlace),
      (∀ (j : Nat) t v, fn.params[j]? = some t → args[j]? = some v → Value.okWide C.prog W .any base t v) →
      DataW.Whole enc C.prog fn.params.toList s.vars apart W args.toList ds gs before → k H (ds ++ gs) = true → X W args →
      Calls C.prog f args W fun e W' => ∃ v, e = .returned v ∧ (s.at F).post enc C.prog fn apart fresh handsOn again W args v W') :
    ReturnsInHanded a C os f .any (fun w args => (s.pre enc C.prog fn conds apart w args ∧ X w args) ∧ sizedMet enc C.prog fn s apart w args) ((s.at F).post enc C.prog fn apart fresh handsOn again) := by
  refine returnsInHanded_of_calls own started noInit witness ?_
  intro w tape i _ _ _ hok hpre hholds
  obtain ⟨_, _, _, fn', hfn', _, _, _, _, hval⟩ := hok
  have e : fn' = fn := Option.some.inj (hfn'.symm.trans hfn)
  subst e
  obtain ⟨⟨hp, hx⟩, hz⟩ := hpre
  obtain ⟨ds, gs, before, hw, hc, hkk⟩ := (OpenSpec.pre_some hk conds apart _ _).1 hp
  have hw' := DataW.Whole.of_heap (w' := w.forCall tape i) (by rfl) hw
  refine (contract (w.forCall tape i) w.heap.size i.args ds gs before hval hw' hkk (hX _ _ _ (by rfl) hx)).mono fun e W' ⟨v, he, hp⟩ => ?_
  subst he
  exact ChangeSpec.post_blind hp
/-- A start that meets such a row. -/
theorem cond_start {H : Type} {enc : TypeId × Value → H} {C : Checked} {os : Os} {f : FuncId} {fn : Func} {s : OpenSpec} {k : (H : Type) → List (DataW H) → Bool} (hk : s.cond = some k) {apart : Bool} {X : World → Array Value → Prop} (w0 : World) (args : Array Value) (fuel : Nat) (hos : w0.os = os)
    (hsh : (w0.forCall (fun _ _ => 0) ⟨#[], args, []⟩).Shaped C.prog)
    (hok : Input.okWideB C.prog (w0.forCall (fun _ _ => 0) ⟨#[], args, []⟩) f ⟨#[], args, []⟩ = true)
    {x : List (DataW H) × List (DataW H) × List MemPlace} (hx : DataW.whole enc C.prog (w0.forCall (fun _ _ => 0) ⟨#[], args, []⟩).memory fn.params.toList s.vars apart args.toList fuel = some x) (hkk : k H (x.1 ++ x.2.1) = true)
    (hsz : s.bare.sizedB enc C.prog fn apart (w0.forCall (fun _ _ => 0) ⟨#[], args, []⟩).memory args fuel = true)
    (hX : X (w0.forCall (fun _ _ => 0) ⟨#[], args, []⟩).memory args) :
    ∃ (w : World) (tape : Tape) (i : Input), w.os = os ∧ (w.forCall tape i).Shaped C.prog ∧ i.vars = [] ∧ Input.okWide C.prog (w.forCall tape i) .any w.heap.size f i ∧
      ((s.pre enc C.prog fn [] apart (w.forCall tape i).memory i.args ∧ X (w.forCall tape i).memory i.args) ∧ sizedMet enc C.prog fn s apart (w.forCall tape i).memory i.args) ∧ ({} : Assume).holds C.prog (lone (Frame.enter C.prog f i.args .normal) [] (w.forCall tape i)) :=
  ⟨w0, fun _ _ => 0, ⟨#[], args, []⟩, hos, hsh, (Input.okWide_of_okWideB (base := 0) hok).1, (Input.okWide_of_okWideB hok).2,
    ⟨⟨(OpenSpec.pre_some hk [] apart _ _).2 ⟨x.1, x.2.1, x.2.2, DataW.Whole_of_whole hx, rfl, hkk⟩, hX⟩, sizedMet_of_sizedB hsz⟩, by
    simp only [Assume.holds]
    exact ⟨by simp, by simp, by simp, by simp, by simp⟩⟩
theorem str2 {P : Program} {t t0 t1 : TypeId} {o0 o1 : Nat} (h : ((P.underlying t).bind fun d => match d with | .struct fs => some (fs.toList.map fun f => (f.type, f.offset)) | _ => none) = some [(t0, o0), (t1, o1)]) :
    ∃ f0 f1 : Field, P.underlying t = some (.struct #[f0, f1]) ∧ f0.type = t0 ∧ f0.offset = o0 ∧ f1.type = t1 ∧ f1.offset = o1 := by
  cases hu : P.underlying t with
  | none => rw [hu] at h; cases h
  | some d =>
    rw [hu] at h
    simp only [Option.bind_some] at h
    split at h
    · rename_i fs
      obtain ⟨l⟩ := fs
      simp only [Option.some.injEq] at h
      match l, h with
      | [f0, f1], h =>
        simp only [List.map_cons, List.map_nil, List.cons.injEq, Prod.mk.injEq, and_true] at h
        exact ⟨f0, f1, rfl, h.1.1, h.1.2, h.2.1, h.2.2⟩
    · cases h
theorem linS : ((Try.prog.underlying 36).bind fun d => match d with | .struct fs => some (fs.toList.map fun f => (f.type, f.offset)) | _ => none) = some [(33, 0), (34, 1)] := by kernel_rfl
theorem trmS : ((Try.prog.underlying 40).bind fun d => match d with | .struct fs => some (fs.toList.map fun f => (f.type, f.offset)) | _ => none) = some [(9, 0), (34, 1)] := by kernel_rfl
theorem c69 : Try.prog.cellsOf 36 = 2 := by kernel_rfl
theorem c80 : Try.prog.cellsOf 40 = 2 := by kernel_rfl
theorem c67 : Try.prog.cellsOf 33 = 1 := by kernel_rfl
theorem c33 : Try.prog.cellsOf 34 = 1 := by kernel_rfl
theorem c9 : Try.prog.cellsOf 9 = 1 := by kernel_rfl
theorem u33 : Try.prog.underlying 34 = some (.int .u32) := by kernel_rfl
theorem choose_list {α : Type} (P : Nat → α → Prop) : ∀ n, (∀ i, i < n → ∃ x, P i x) → ∃ l : List α, l.length = n ∧ ∀ i (hi : i < l.length), P i l[i]
  | 0, _ => ⟨[], rfl, fun i hi => by simp at hi⟩
  | n + 1, h => by
    obtain ⟨l, hl, hp⟩ := choose_list P n (fun i hi => h i (by omega))
    obtain ⟨x, hx⟩ := h n (by omega)
    refine ⟨l ++ [x], by simp [hl], fun i hi => ?_⟩
    by_cases hin : i < l.length
    · rw [List.getElem_append_left hin]
      exact hp i hin
    · have hi' : i = n := by simp at hi; omega
      subst hi'
      rw [List.getElem_append_right (by omega)]
      simpa using hx
theorem bulk_ge {H : Type} (k : Nat) : ∀ l : List (DataW H), (∀ d, d ∈ l → k ≤ Rows.uptoBulk d) → k * l.length ≤ Rows.uptoBulkAll l
  | [], _ => by simp
  | d :: l, h => by
    have h1 := h d (List.mem_cons_self ..)
    have h2 := bulk_ge k l (fun x hx => h x (List.mem_cons_of_mem _ hx))
    rw [List.length_cons, Nat.mul_succ]
    unfold Rows.uptoBulkAll
    omega
theorem bulk_mem {H : Type} {d : DataW H} : ∀ {l : List (DataW H)}, d ∈ l → Rows.uptoBulk d ≤ Rows.uptoBulkAll l
  | x :: l, h => by
    unfold Rows.uptoBulkAll
    rcases List.mem_cons.1 h with rfl | h
    · omega
    · have := bulk_mem h
      omega
/-- A Lin that was handed in. -/
structure LinIn (h : Hp) (p : Option Addr) (l c : Nat) (x : Lin) (N : Nat) : Prop where
  vw : VwT h p l x.terms
  blk : ∀ i, i ∈ blkOf p → i < h.size
  cap : l ≤ c
  capm : c ≤ maxLen
  nil : p = none → c = 0
  names : ∀ t, t ∈ x.terms → t.1.size ≤ maxLen ∧ t.1.size + 3 ≤ N
  coefs : ∀ t, t ∈ x.terms → t.2 < 4294967296
  num : x.num < 4294967296
  many : 3 * x.terms.length ≤ N
theorem cells2 {W : World} {base : Nat} {a : Addr} {cs : List Value} (h : W.cells? base a 2 = some cs) : ∃ v u, cs = [v, u] ∧ hcell W.heap (a.add 0) = some v ∧ hcell W.heap (a.add 1) = some u := by
  unfold World.cells? at h
  split at h
  · rw [show List.range 2 = [0, 1] from rfl] at h
    simp only [List.mapM_cons, List.mapM_nil, cell_heap] at h
    cases h0 : hcell W.heap (a.add 0) with
    | none => simp [h0] at h
    | some v =>
      cases h1 : hcell W.heap (a.add 1) with
      | none => simp [h0, h1] at h
      | some u =>
        simp [h0, h1] at h
        exact ⟨v, u, h.symm, rfl, rfl⟩
  · cases h
theorem open_term {H : Type} {enc : TypeId × Value → H} {W : World} {base n : Nat} {sp : Nat → Bool} {held : Bool} {cs : List Value} {y : DataW H × List MemPlace} (h : DataW.trod enc Try.prog W base sp held n 40 cs = some y) :
    ∃ t : ByteArray × Nat, cs = encT t ∧ t.1.size ≤ maxLen ∧ t.2 < 4294967296 ∧ Rows.uptoBulk y.1 = t.1.size + 3 := by
  obtain ⟨f0, f1, hu, a0, b0, a1, b1⟩ := str2 trmS
  obtain ⟨y0, y1, m, rfl, hl, h0, h1⟩ := trod_struct2 hu h
  rw [c80] at hl
  rw [a0, b0, c9] at h0
  rw [a1, b1, c33] at h1
  match cs, hl with
  | [v, u], _ =>
    simp only [List.drop_zero, List.take_succ_cons, List.take_zero] at h0
    simp only [List.drop_succ_cons, List.drop_zero, List.take_succ_cons, List.take_zero] at h1
    obtain ⟨s, e0, rfl, hs⟩ := DataW.trod_string u9 h0
    obtain ⟨k, e1, rfl, hk⟩ := DataW.trod_int u33 h1
    have hb := bounds_u32 hk
    cases e0; cases e1
    refine ⟨(s, k.toNat), ?_, hs, by omega, ?_⟩
    · unfold encT
      simp only [List.cons.injEq, Value.int.injEq, true_and, and_true]
      omega
    · simp only [Rows.uptoBulk, Rows.uptoBulkAll]
      rw [Array.length_toList]
      show s.data.size + 1 + (1 + 0) + 1 = s.data.size + 3
      omega
theorem has_lt {P : Program} {W : World} {r : Reach} {b n : Nat} {a : Addr} {e : TypeId} (h : W.has P r b a e n) : a.block < W.heap.size := by
  obtain ⟨_, _, row, cells, hs, _⟩ := h
  unfold World.shape? at hs
  split at hs
  · rename_i hg
    exact lt_of_get hg
  · cases hs
theorem okSlice_lt {W : World} {b0 l c : Nat} {t e : TypeId} {a : Addr} (ht : Try.prog.underlying t = some (.slice e)) (h : Cell.okWide Try.prog W .any b0 t (.slice (some a) l c)) : a.block < W.heap.size := by
  unfold Cell.okWide at h
  rw [ht] at h
  have h : Cell.ok Try.prog W .any b0 t (.slice (some a) l c) := h
  unfold Cell.ok at h
  rw [ht] at h
  exact has_lt h.2.2
theorem lin_cells : Try.prog.cellTypes Try.prog.depth 36 = some [33, 34] := by kernel_rfl
theorem open_lin {H : Type} {enc : TypeId × Value → H} {W : World} {base b0 : Nat} {sp : Nat → Bool} {held : Bool} {v : Value} {d : DataW H} {ps : List MemPlace} (hval : Value.okWide Try.prog W .any b0 36 v) (h : DataW.Trod enc Try.prog W base sp held 36 v d ps) :
    ∃ p l c x, v = linV p l c x ∧ LinIn W.heap p l c x (Rows.uptoBulk d) := by
  obtain ⟨f0, f1, hu, a0, b0', a1, b1⟩ := str2 linS
  have hval' : ∃ cs, v = .agg cs ∧ cs.size = Try.prog.cellsOf 36 ∧ Row.okWide Try.prog W .any b0 36 cs := by
    unfold Value.okWide at hval
    rw [hu] at hval
    exact hval
  obtain ⟨cs, rfl, hsz, ts, hts, _, hrow⟩ := hval'
  obtain rfl := Option.some.inj (lin_cells.symm.trans hts)
  rw [c69] at hsz
  obtain ⟨fuel, h⟩ := h
  obtain ⟨y0, y1, m, hx, hl, h0, h1⟩ := trod_struct2 hu h
  have hlist : (Value.agg cs).cells.toList = cs.toList := rfl
  rw [hlist] at h0 h1
  rw [a0, b0', c67] at h0
  rw [a1, b1, c33] at h1
  obtain ⟨l⟩ := cs
  match l, hsz with
  | [u, w], _ =>
    simp only [List.drop_zero, List.take_succ_cons, List.take_zero] at h0
    simp only [List.drop_succ_cons, List.drop_zero, List.take_succ_cons, List.take_zero] at h1
    obtain ⟨k, e1, rfl, hk⟩ := DataW.trod_int u33 h1
    have hb := bounds_u32 hk
    cases e1
    have hd : d = .agg [y0.1, .lit (.int .u32 k)] := by
      have := congrArg Prod.fst hx
      simpa using this
    obtain ⟨u', hu', hok⟩ := hrow 0 u rfl
    obtain rfl : (33 : TypeId) = u' := Option.some.inj hu'
    rcases DataW.trod_slice und67 h0 with ⟨e0, hy0⟩ | ⟨a, len, cap, elems, rest, n, _, e0, hy0, hbase, hlc, hcm, hlen, hel, _, _⟩
    · cases e0
      refine ⟨none, 0, 0, ⟨[], k.toNat⟩, ?_, ⟨rfl, fun i hi => by simp at hi⟩, by simp [blkOf], Nat.le_refl _, Nat.zero_le _, (fun _ => rfl), by simp, by simp, by show k.toNat < _; omega, by simp⟩
      unfold linV
      have : ((k.toNat : Nat) : Int) = k := by omega
      rw [this]
    · cases e0
      have each : ∀ i, i < len → ∃ t : ByteArray × Nat, cellsAt W.heap (a.add (i * 2)) 0 (encT t) ∧ t.1.size ≤ maxLen ∧ t.2 < 4294967296 ∧ ∃ y, elems[i]? = some y ∧ Rows.uptoBulk y.1 = t.1.size + 3 := by
        intro i hi
        have he := hel i hi
        rw [c80] at he
        cases hy : elems[i]? with
        | none => rw [List.getElem?_eq_none_iff] at hy; omega
        | some y =>
          rw [hy] at he
          simp only [Option.bind_eq_some_iff] at he
          obtain ⟨cs', hcs, htr⟩ := he
          obtain ⟨v1, v2, rfl, g1, g2⟩ := cells2 hcs
          obtain ⟨t, ht, k1, k2, k3⟩ := open_term htr
          refine ⟨t, ?_, k1, k2, y, rfl, k3⟩
          rw [← ht]
          exact ⟨g1, g2, trivial⟩
      obtain ⟨us, hul, hus⟩ := choose_list _ len each
      have hbl : Rows.uptoBulk d = Rows.uptoBulkAll (elems.map (·.1)) + Rows.uptoBulkAll (rest.map (·.1)) + 1 + (1 + 0) + 1 := by
        rw [hd, hy0]
        simp only [Rows.uptoBulk, Rows.uptoBulkAll]
      have hmem : ∀ i, (hi : i < us.length) → us[i].1.size + 3 ≤ Rows.uptoBulkAll (elems.map (·.1)) := by
        intro i hi
        obtain ⟨_, _, _, y, hy, hyb⟩ := hus i hi
        have := bulk_mem (d := y.1) (l := elems.map (·.1)) (List.mem_map.2 ⟨y, List.mem_of_getElem? hy, rfl⟩)
        omega
      have hmany : 3 * us.length ≤ Rows.uptoBulkAll (elems.map (·.1)) := by
        have := bulk_ge 3 (elems.map (·.1)) (fun d' hd' => by
          obtain ⟨y, hy, rfl⟩ := List.mem_map.1 hd'
          obtain ⟨i, hi, rfl⟩ := List.getElem_of_mem hy
          obtain ⟨_, _, _, y', hy', hyb⟩ := hus i (by omega)
          rw [List.getElem?_eq_getElem hi] at hy'
          cases hy'
          omega)
        rw [List.length_map] at this
        omega
      refine ⟨some a, len, cap, ⟨us, k.toNat⟩, ?_, ⟨hul.symm, fun i hi => ⟨a, rfl, (hus i hi).1⟩⟩, ?_, hlc, hcm, (fun hh => by cases hh), ?_, ?_, by show k.toNat < _; omega, ?_⟩
      · unfold linV
        have : ((k.toNat : Nat) : Int) = k := by omega
        rw [this]
      · intro i hi
        simp only [blkOf, List.mem_singleton] at hi
        subst hi
        exact okSlice_lt und67 hok
      · intro t (ht : t ∈ us)
        obtain ⟨i, hi, rfl⟩ := List.getElem_of_mem ht
        obtain ⟨_, g2, _, _⟩ := hus i hi
        have := hmem i hi
        exact ⟨g2, by omega⟩
      · intro t (ht : t ∈ us)
        obtain ⟨i, hi, rfl⟩ := List.getElem_of_mem ht
        exact (hus i hi).2.2.1
      · show 3 * us.length ≤ _
        omega
/-- Numbers that were handed in. -/
structure NumIn (h : Hp) (p : Option Addr) (l : Nat) (us : List Nat) (N : Nat) : Prop where
  len : l = us.length
  cells : ∀ i, (hi : i < us.length) → ∃ a, p = some a ∧ cellsAt h (a.add (i * 1)) 0 [.int .u32 us[i]]
  lt : ∀ n, n ∈ us → n < 4294967296
  capm : l ≤ maxLen
theorem u76 : Try.prog.underlying 23 = some (.slice 34) := by kernel_rfl
theorem open_nums {H : Type} {enc : TypeId × Value → H} {W : World} {base b0 : Nat} {held : Bool} {v : Value} {d : DataW H} {ps : List MemPlace} (hval : Value.okWide Try.prog W .any b0 23 v) (h : DataW.Trod enc Try.prog W base (fun _ => true) held 23 v d ps) :
    ∃ p l c us, v = .slice p l c ∧ NumIn W.heap p l us 0 := by
  obtain ⟨p, l, c, rfl⟩ := okWide_slice u76 hval
  obtain ⟨fuel, h⟩ := h
  have hlist : (Value.slice p l c).cells.toList = [.slice p l c] := rfl
  rw [hlist] at h
  rcases open_ints u76 u33 c33 h with ⟨e0, _⟩ | ⟨a, len, cap, zs, e0, hb, hlc, hcm, hzl, _, hcell, hwf⟩
  · cases e0
    exact ⟨none, 0, 0, [], rfl, rfl, fun i hi => by simp at hi, by simp, Nat.zero_le _⟩
  · cases e0
    simp only [if_true] at hzl
    refine ⟨some a, l, c, (zs.take l).map Int.toNat, rfl, ?_, ?_, ?_, by omega⟩
    · rw [List.length_map, List.length_take]; omega
    · intro i hi
      rw [List.length_map, List.length_take] at hi
      refine ⟨a, rfl, ?_⟩
      have hi2 : i < zs.length := by omega
      have hc := hcell i hi2
      have hz : zs.getD i 0 = zs[i] := by simp [List.getD, List.getElem?_eq_getElem hi2]
      have hr := bounds_u32 (hwf zs[i] (List.getElem_mem hi2))
      rw [Nat.mul_one]
      refine ⟨?_, trivial⟩
      rw [add_add, Nat.add_zero, ← cell_heap, hc, hz, List.getElem_map, List.getElem_take]
      have : ((zs[i].toNat : Nat) : Int) = zs[i] := by omega
      rw [this]
    · intro n hn
      obtain ⟨z, hz, rfl⟩ := List.mem_map.1 hn
      have hr := bounds_u32 (hwf z (List.mem_of_mem_take hz))
      omega
end Go.Sx

set_option linter.unusedVariables false
set_option maxRecDepth 100000
namespace Go.Sx
open Go.Proofs
section
variable {α : Type}
def vE (en : α → Value) (D : List (ByteArray × α)) : List (ByteArray × Value) := D.map fun p => (p.1, en p.2)
def gE (D : List (ByteArray × α)) (s : ByteArray) : Option α := (D.find? fun p => decide (s = p.1)).map (·.2)
def pE (D : List (ByteArray × α)) (s : ByteArray) (v : α) : List (ByteArray × α) := if (gE D s).isSome then D.map fun p => if s = p.1 then (p.1, v) else p else D ++ [(s, v)]
theorem look_vE (en : α → Value) (D : List (ByteArray × α)) (s : ByteArray) : look (vE en D) s = (gE D s).map en := by
  unfold look gE vE
  induction D with
  | nil => rfl
  | cons p D ih =>
    by_cases h : s = p.1
    · simp [h]
    · simp only [List.map_cons, List.find?_cons, decide_eq_false h]
      exact ih
theorem upd_vE (en : α → Value) (D : List (ByteArray × α)) (s : ByteArray) (v : α) : upd (vE en D) s (en v) = vE en (pE D s v) := by
  unfold upd pE
  rw [look_vE]
  cases h : gE D s with
  | none => simp [vE]
  | some q =>
    simp only [Option.map_some, Option.isSome_some, if_true, vE, List.map_map]
    refine List.map_congr_left fun p hp => ?_
    simp only [Function.comp]
    split <;> simp_all
theorem pE_length (D : List (ByteArray × α)) (s : ByteArray) (v : α) : (pE D s v).length = if (gE D s).isSome then D.length else D.length + 1 := by
  unfold pE
  split <;> simp
theorem gE_append (D : List (ByteArray × α)) (s t : ByteArray) (v : α) : gE (D ++ [(s, v)]) t = (gE D t).or (if t = s then some v else none) := by
  unfold gE
  rw [List.find?_append]
  cases h : D.find? (fun p => decide (t = p.1)) with
  | some q => simp
  | none =>
    simp only [Option.none_or, Option.map_none, List.find?_cons, List.find?_nil]
    by_cases e : t = s
    · simp [e]
    · simp [e]
theorem gE_map (D : List (ByteArray × α)) (s t : ByteArray) (v : α) (hs : (gE D s).isSome) : gE (D.map fun p => if s = p.1 then (p.1, v) else p) t = if t = s then some v else gE D t := by
  unfold gE at *
  induction D with
  | nil => simp at hs
  | cons p D ih =>
    by_cases h : s = p.1
    · by_cases e : t = s
      · simp [h, e]
      · have e2 : ¬ t = p.1 := fun k => e (k.trans h.symm)
        have hg : ∀ l : List (ByteArray × α), (List.find? (fun p => decide (t = p.1)) (List.map (fun p => if s = p.1 then (p.1, v) else p) l)).map (·.2) = (List.find? (fun p => decide (t = p.1)) l).map (·.2) := by
          intro l
          induction l with
          | nil => rfl
          | cons q l ihl =>
            by_cases hq : s = q.1
            · have : ¬ t = q.1 := fun k => e (k.trans hq.symm)
              simp only [List.map_cons, List.find?_cons, if_pos hq, decide_eq_false this]
              exact ihl
            · simp only [List.map_cons, List.find?_cons, if_neg hq]
              by_cases ht : t = q.1
              · simp [ht]
              · simp only [decide_eq_false ht]
                exact ihl
        simp only [List.map_cons, List.find?_cons, if_pos h, decide_eq_false e2, if_neg e]
        exact hg D
    · have hs2 : (Option.map (fun x => x.2) (List.find? (fun p => decide (s = p.1)) D)).isSome := by
        simpa [List.find?_cons, decide_eq_false h] using hs
      simp only [List.map_cons, List.find?_cons, if_neg h]
      by_cases ht : t = p.1
      · have : ¬ t = s := fun k => h (k.symm.trans ht)
        simp [ht, if_neg (ht ▸ this)]
      · simp only [decide_eq_false ht]
        exact ih hs2
theorem gE_pE (D : List (ByteArray × α)) (s : ByteArray) (v : α) (t : ByteArray) : gE (pE D s v) t = if t = s then some v else gE D t := by
  unfold pE
  split
  · rename_i h
    exact gE_map D s t v h
  · rename_i h
    rw [gE_append]
    by_cases e : t = s
    · subst e
      have : gE D t = none := by simpa using h
      rw [this]; simp
    · simp [e]
/-- A function with one value turned. -/
def fset (f : ByteArray → Option α) (s : ByteArray) (v : α) : ByteArray → Option α := fun t => if t = s then some v else f t
theorem fset_same (f : ByteArray → Option α) (s : ByteArray) (v : α) : fset f s v s = some v := by simp [fset]
theorem fset_other (f : ByteArray → Option α) {s t : ByteArray} (v : α) (h : t ≠ s) : fset f s v t = f t := by simp [fset, h]
/-- A block that is a map: what it has at each key, and how many. -/
def MapF (en : α → Value) (h : Hp) (g : Nat) (f : ByteArray → Option α) (n : Nat) : Prop := ∃ D : List (ByteArray × α), MapB h g (vE en D) ∧ (∀ s, gE D s = f s) ∧ D.length = n
theorem MapF.keep {en : α → Value} {ws : List Nat} {h h' : Hp} {g : Nat} {f : ByteArray → Option α} {n : Nat} (m : MapF en h g f n) (k : Ch ws h h') (hw : g ∉ ws) : MapF en h' g f n := by
  obtain ⟨D, m, r⟩ := m
  exact ⟨D, m.keep k hw, r⟩
theorem MapF.lt {en : α → Value} {h : Hp} {g : Nat} {f : ByteArray → Option α} {n : Nat} (m : MapF en h g f n) : g < h.size := by
  obtain ⟨D, m, r⟩ := m
  exact m.lt
theorem MapF.new {en : α → Value} {h : Hp} {g : Nat} (m : MapB h g []) : MapF en h g (fun _ => none) 0 := ⟨[], m, fun s => rfl, rfl⟩
theorem MapF.upd {en : α → Value} {h' : Hp} {g : Nat} {f : ByteArray → Option α} {n : Nat} {D : List (ByteArray × α)} (hD : ∀ s, gE D s = f s) (hn : D.length = n) {s : ByteArray} {v : α} (m : MapB h' g (Sx.upd (vE en D) s (en v))) : MapF en h' g (fset f s v) (if (f s).isSome then n else n + 1) := by
  rw [upd_vE] at m
  refine ⟨_, m, fun t => ?_, ?_⟩
  · rw [gE_pE, hD t]; rfl
  · rw [pE_length, hD s, hn]
end
def eI (n : Nat) : Value := .int .i64 (n : Int)
def eB (b : Bool) : Value := .bool b
theorem und65 : Try.prog.underlying 65 = some (.map 9 3) := by kernel_rfl
theorem und32 : Try.prog.underlying 32 = some (.map 9 4) := by kernel_rfl
theorem infoI : (Try.prog.info? 3).bind (·.zero) = some (.int .i64 0) := by kernel_rfl
theorem infoB : (Try.prog.info? 4).bind (·.zero) = some (.bool false) := by kernel_rfl
section
variable {L : Lp} {K : Value → Hp → Prop} {h : Hp} {g n : Nat}
theorem lookI {f : ByteArray → Option Nat} (m : MapF eI h g f n) (s : ByteArray) {k : Int → T} (hk : k (((f s).getD 0 : Nat) : Int) L K h) : T.sem Try.prog (Instr.lookup 65 (.map (some g)) (.string s) false) false [(false, [.int .i64])] k L K h := by
  obtain ⟨D, m, hD, hn⟩ := m
  refine lookup_of und65 und9 infoI m s false _ ?_
  refine ⟨((((f s).getD 0 : Nat) : Int), ()), ?_, hk⟩
  simp only [Bool.false_eq_true, if_false]
  rw [look_vE, hD s]
  cases f s <;> rfl
theorem lookIb {f : ByteArray → Option Nat} (m : MapF eI h g f n) (s : ByteArray) {k : Int → Bool → T} (hk : k (((f s).getD 0 : Nat) : Int) (f s).isSome L K h) : T.sem Try.prog (Instr.lookup 65 (.map (some g)) (.string s) true) true [(false, [.int .i64]), (false, [.bool])] k L K h := by
  obtain ⟨D, m, hD, hn⟩ := m
  refine lookup_of und65 und9 infoI m s true _ ?_
  refine ⟨((((f s).getD 0 : Nat) : Int), (f s).isSome, ()), ?_, hk⟩
  rw [if_pos rfl, look_vE, hD s]
  cases f s <;> rfl
theorem lookB {f : ByteArray → Option Bool} (m : MapF eB h g f n) (s : ByteArray) {k : Bool → T} (hk : k ((f s).getD false) L K h) : T.sem Try.prog (Instr.lookup 32 (.map (some g)) (.string s) false) false [(false, [.bool])] k L K h := by
  obtain ⟨D, m, hD, hn⟩ := m
  refine lookup_of und32 und9 infoB m s false _ ?_
  refine ⟨((f s).getD false, ()), ?_, hk⟩
  simp only [Bool.false_eq_true, if_false]
  rw [look_vE, hD s]
  cases f s <;> rfl
theorem putI {f : ByteArray → Option Nat} (m : MapF eI h g f n) {s : ByteArray} (hs : s.size ≤ maxLen) {v : Int} {w : Nat} (hv : v = (w : Int)) {k : T} (hk : ∀ h', MapF eI h' g (fset f s w) (if (f s).isSome then n else n + 1) → Ch [g] h h' → h'.size = h.size → k L K h') :
    T.semU Try.prog (Instr.mapUpdate 65 (.map (some g)) (.string s) (.int .i64 v)) k L K h := by
  subst hv
  obtain ⟨D, m, hD, hn⟩ := m
  refine mapUpdate_of und65 und9 m hs _ _ ?_
  intro h' m' c' z'
  exact hk h' (MapF.upd (en := eI) hD hn m') c' z'
theorem putB {f : ByteArray → Option Bool} (m : MapF eB h g f n) {s : ByteArray} (hs : s.size ≤ maxLen) {b : Bool} {k : T} (hk : ∀ h', MapF eB h' g (fset f s b) (if (f s).isSome then n else n + 1) → Ch [g] h h' → h'.size = h.size → k L K h') :
    T.semU Try.prog (Instr.mapUpdate 32 (.map (some g)) (.string s) (.bool b)) k L K h := by
  obtain ⟨D, m, hD, hn⟩ := m
  refine mapUpdate_of und32 und9 m hs _ _ ?_
  intro h' m' c' z'
  exact hk h' (MapF.upd (en := eB) hD hn m') c' z'
theorem makeF {α : Type} {en : α → Value} {t : TypeId} {k : Option Nat → T} (hk : ∀ h', MapF en h' h.size (fun _ => none) 0 → Ext h h' → h'.size = h.size + 1 → k (some h.size) L K h') : T.sem Try.prog (Instr.makeMap t none) false [(false, [.map 0 0])] k L K h := by
  refine makeMap_of _ ?_
  intro h' m e z
  exact ⟨(some h.size, ()), rfl, hk h' (MapF.new m) e z⟩
theorem lenF {α : Type} {en : α → Value} {f : ByteArray → Option α} (m : MapF en h g f n) {k : Int → T} (hk : k (n : Int) L K h) : T.sem Try.prog (Builtin.len_ #[65] 3 #[.map (some g)]) false [(false, [.int .i64])] k L K h := by
  obtain ⟨D, m, hD, hn⟩ := m
  obtain ⟨es, clock, hg, he, hst, hd⟩ := m
  have hes : es.size = n := by
    have := congrArg List.length he
    simpa [vE, hn] using this
  show semW _ _ _ _
  unfold Builtin.len_
  simp only [List.getElem?_toArray, List.getElem?_cons_zero]
  rw [semW_bind', semW_underlying und65]
  simp only [pure_bind]
  rw [semW_bind']
  refine semW_getObj hg (by simp) _ ?_
  simp only [pure_bind]
  exact ⟨((n : Int), ()), by rw [hes]; rfl, hk⟩
theorem minI {a b : Nat} {k : Int → T} (hk : k ((min a b : Nat) : Int) L K h) : T.sem Try.prog (Builtin.min_ #[3, 3] 3 #[.int .i64 (a : Int), .int .i64 (b : Int)]) false [(false, [.int .i64])] k L K h := by
  show semW _ _ _ _
  refine ⟨(((min a b : Nat) : Int), ()), ?_, hk⟩
  show Value.int .i64 (if (b : Int) < (a : Int) then (b : Int) else (a : Int)) = .int .i64 ((min a b : Nat) : Int)
  congr 1
  split <;> omega
end
end Go.Sx
