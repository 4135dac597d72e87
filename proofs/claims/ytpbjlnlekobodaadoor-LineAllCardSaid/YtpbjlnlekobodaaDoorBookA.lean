/- The book keeps lists of tokens: what Keep does to a heap. Condition: the book holds at most 4000 lists, each new list shares no block with it. -/
import Derived.Test.YtpbjlnlekobodaaDoorLexR
import Derived.Test.YtpbjlnlekobodaaDoorLexX
set_option linter.unusedVariables false
set_option linter.unusedSimpArgs false
set_option linter.deprecated false
set_option maxRecDepth 100000
namespace Go.Sx
open Go.Proofs
/-- A list that a book keeps, and its copy. -/
structure Ent where
  p : Option Addr
  l : Nat
  c : Nat
  q : Option Addr
  d : Nat
  ts : List Tok
def Ent.one (e : Ent) : List Value := [.slice e.p e.l e.c]
def Ent.two (e : Ent) : List Value := [.slice e.q e.l e.d]
def Ent.blks (e : Ent) : List Nat := blkOf e.p ++ blkOf e.q
/-- A book in a heap: its own block, the lists, the copies; nothing shares a block. -/
structure Book (h : Hp) (gb b : Nat) (pl : Option Addr) (cl : Nat) (pw : Option Addr) (cw : Nat) (es : List Ent) : Prop where
  box : ∃ held : Int, Box h gb 40 [.slice pl es.length cl, .slice pw es.length cw, .int .i64 held, .bool false]
  ge : b ≤ gb
  one : SL h b 23 1 pl es.length cl (es.map Ent.one)
  two : SL h b 23 1 pw es.length cw (es.map Ent.two)
  ent : ∀ e, e ∈ es → SL h b 35 4 e.p e.l e.c (e.ts.map enc) ∧ SL h b 35 4 e.q e.l e.d (e.ts.map enc) ∧ e.ts.length ≤ 2 ^ 40
  gpl : gb ∉ blkOf pl
  gpw : gb ∉ blkOf pw
  plw : ∀ i, i ∈ blkOf pl → i ∉ blkOf pw
  eg : ∀ e, e ∈ es → ∀ i, i ∈ e.blks → i ≠ gb ∧ i ∉ blkOf pl ∧ i ∉ blkOf pw
  pq : ∀ e, e ∈ es → ∀ i, i ∈ blkOf e.p → i ∉ blkOf e.q
  ee : es.Pairwise fun e f => ∀ i, i ∈ e.blks → i ∉ f.blks
theorem Book.lt {h : Hp} {gb b : Nat} {pl : Option Addr} {cl : Nat} {pw : Option Addr} {cw : Nat} {es : List Ent} (B : Book h gb b pl cl pw cw es) : gb < h.size ∧ (∀ i, i ∈ blkOf pl → i < h.size) ∧ (∀ i, i ∈ blkOf pw → i < h.size) ∧ ∀ e, e ∈ es → ∀ i, i ∈ e.blks → i < h.size := by
  obtain ⟨held, hb⟩ := B.box
  refine ⟨hb.lt, fun i hi => (B.one.blk hi).2, fun i hi => (B.two.blk hi).2, fun e he i hi => ?_⟩
  rcases List.mem_append.1 hi with hi | hi
  · exact ((B.ent e he).1.blk hi).2
  · exact ((B.ent e he).2.1.blk hi).2
theorem Book.keep {ws : List Nat} {h h' : Hp} {gb b : Nat} {pl : Option Addr} {cl : Nat} {pw : Option Addr} {cw : Nat} {es : List Ent} (B : Book h gb b pl cl pw cw es) (k : Ch ws h h')
    (h1 : gb ∉ ws) (h2 : ∀ i, i ∈ blkOf pl → i ∉ ws) (h3 : ∀ i, i ∈ blkOf pw → i ∉ ws) (h4 : ∀ e, e ∈ es → ∀ i, i ∈ e.blks → i ∉ ws) : Book h' gb b pl cl pw cw es := by
  obtain ⟨held, hb⟩ := B.box
  exact ⟨⟨held, hb.keep k h1⟩, B.ge, B.one.keep' k h2, B.two.keep' k h3, fun e he => ⟨(B.ent e he).1.keep' k fun i hi => h4 e he i (List.mem_append_left _ hi), (B.ent e he).2.1.keep' k fun i hi => h4 e he i (List.mem_append_right _ hi), (B.ent e he).2.2⟩,
    B.gpl, B.gpw, B.plw, B.eg, B.pq, B.ee⟩
/-- The book's own block turns, its lists stay. -/
theorem Book.rebox {h h' : Hp} {gb b : Nat} {pl : Option Addr} {cl : Nat} {pw : Option Addr} {cw : Nat} {es : List Ent} (B : Book h gb b pl cl pw cw es) (k : Ch [gb] h h') {held : Int}
    (hb : Box h' gb 40 [.slice pl es.length cl, .slice pw es.length cw, .int .i64 held, .bool false]) : Book h' gb b pl cl pw cw es :=
  ⟨⟨held, hb⟩, B.ge, B.one.keep' k fun i hi => by simp; exact fun e => B.gpl (e ▸ hi), B.two.keep' k fun i hi => by simp; exact fun e => B.gpw (e ▸ hi),
    fun e he => ⟨(B.ent e he).1.keep' k fun i hi => by simp; exact (B.eg e he i (List.mem_append_left _ hi)).1, (B.ent e he).2.1.keep' k fun i hi => by simp; exact (B.eg e he i (List.mem_append_right _ hi)).1, (B.ent e he).2.2⟩,
    B.gpl, B.gpw, B.plw, B.eg, B.pq, B.ee⟩
theorem blkOf_add (p : Option Addr) (k : Nat) : blkOf (p.map fun a => a.add k) = blkOf p := by
  cases p with
  | none => rfl
  | some a => simp [blkOf, add_block]
/-- The book lets its first list go. -/
theorem Book.tail {h h' : Hp} {gb b : Nat} {pl : Option Addr} {cl : Nat} {pw : Option Addr} {cw : Nat} {es : List Ent} (B : Book h gb b pl cl pw cw es) (k : Ch [gb] h h') (h1 : 1 ≤ es.length) {held : Int}
    (hb : Box h' gb 40 [.slice (pl.map fun a => a.add 1) (es.length - 1) (cl - 1), .slice (pw.map fun a => a.add 1) (es.length - 1) (cw - 1), .int .i64 held, .bool false]) :
    Book h' gb b (pl.map fun a => a.add 1) (cl - 1) (pw.map fun a => a.add 1) (cw - 1) (es.drop 1) := by
  have hl : (es.drop 1).length = es.length - 1 := by rw [List.length_drop]
  have hm : ∀ e, e ∈ es.drop 1 → e ∈ es := fun e he => List.mem_of_mem_drop he
  have o1 := (B.one.drop (k := 1) h1).keep' k (fun i hi => by rw [blkOf_add] at hi; simp; exact fun e => B.gpl (e ▸ hi))
  have o2 := (B.two.drop (k := 1) h1).keep' k (fun i hi => by rw [blkOf_add] at hi; simp; exact fun e => B.gpw (e ▸ hi))
  rw [← List.map_drop] at o1 o2
  refine ⟨⟨held, by rw [hl]; exact hb⟩, B.ge, by rw [hl]; exact o1, by rw [hl]; exact o2,
    fun e he => ⟨(B.ent e (hm e he)).1.keep' k fun i hi => by simp; exact (B.eg e (hm e he) i (List.mem_append_left _ hi)).1, (B.ent e (hm e he)).2.1.keep' k fun i hi => by simp; exact (B.eg e (hm e he) i (List.mem_append_right _ hi)).1, (B.ent e (hm e he)).2.2⟩,
    by rw [blkOf_add]; exact B.gpl, by rw [blkOf_add]; exact B.gpw, by rw [blkOf_add, blkOf_add]; exact B.plw, ?_, fun e he => B.pq e (hm e he), B.ee.sublist (List.drop_sublist 1 es)⟩
  intro e he i hi
  rw [blkOf_add, blkOf_add]
  exact B.eg e (hm e he) i hi
/-- What has come of a book since a heap. -/
def BookTo (h : Hp) (gb b : Nat) (pl pw : Option Addr) (es : List Ent) (p : Option Addr) (h' : Hp) (es' : List Ent) : Prop :=
  ∃ pl' cl' pw' cw', Book h' gb b pl' cl' pw' cw' es' ∧ Ch (gb :: (blkOf pl ++ blkOf pw)) h h' ∧ (∀ i, i ∈ blkOf pl' → i ∈ blkOf pl ∨ h.size ≤ i) ∧ (∀ i, i ∈ blkOf pw' → i ∈ blkOf pw ∨ h.size ≤ i) ∧
    ∀ e, e ∈ es' → ∀ i, i ∈ e.blks → i ∈ blkOf p ∨ h.size ≤ i ∨ ∃ f, f ∈ es ∧ i ∈ f.blks
theorem chGb {h h1 h2 : Hp} {gb : Nat} {l : List Nat} (a : Ch (gb :: l) h h1) (c : Ch [gb] h1 h2) : Ch (gb :: l) h h2 := a.trans c (fun i hi _ => by simp at hi; simp [hi])
/-- Keep: behind it the book holds the list too, or fewer. -/
theorem keep_hc {h : Hp} {gb b : Nat} {pl : Option Addr} {cl : Nat} {pw : Option Addr} {cw : Nat} {es : List Ent} (B : Book h gb b pl cl pw cw es) (hlen : es.length ≤ 4000) {p : Option Addr} {l c : Nat} {ts : List Tok}
    (s : SL h b 35 4 p l c (ts.map enc)) (hts : ts.length ≤ 2 ^ 40) (hfresh : ∀ i, i ∈ blkOf p → i ≠ gb ∧ i ∉ blkOf pl ∧ i ∉ blkOf pw ∧ ∀ e, e ∈ es → i ∉ e.blks) (hbs : b ≤ h.size) :
    HC Tryd.prog 26 #[.pointer (some ⟨gb, 0, none⟩), .slice p l c] h fun v h' => v = .tuple #[] ∧ ∃ es', es'.length ≤ 4000 ∧ BookTo h gb b pl pw es p h' es' := by
  refine hcr_of (args := [.pointer (some ⟨gb, 0, none⟩), .slice p l c]) mixed Tryd.func26 (by kernel_rfl) (t_spandrelbook_Book_lex_Token___Keep_eq (some ⟨gb, 0, none⟩) p l c) ?_
  unfold t_spandrelbook_Book_lex_Token___Keep
  have hll : l = ts.length := by rw [s.1, List.length_map]
  have hsz := B.lt
  obtain ⟨held0, hb⟩ := B.box
  refine join_of (cs := []) (fun _ h2 => ∃ p1 c1 h1, SL h1 b 23 1 p1 (es.length + 1) c1 (es.map Ent.one ++ [[.slice p l c]]) ∧ Ch (blkOf pl) h h1 ∧ (p1 = pl ∨ ∃ a, p1 = some a ∧ h.size ≤ a.block) ∧ Ch [gb] h1 h2 ∧
    Box h2 gb 40 [.slice p1 (es.length + 1) c1, .slice pw es.length cw, .int .i64 held0, .bool false]) ?_ ?_
  · refine osome_mk rfl (loads_box hb ((pl, es.length, cl), ()) rfl ?_)
    dsimp only [flat, unc, unc1, List.nil_append, List.cons_append]
    refine push_of (e := 23) (z := .slice none 0 0) (sz := 1) (by' := 24) (vs := [.slice p l c]) (by kernel_rfl) (by kernel_rfl) rfl (by omega) (by omega) (by kernel_rfl) rfl rfl B.one hbs (by omega) (by omega) ?_
    intro p1 c1 h1 o1 k1 hp1
    have hb1 := hb.keep k1 B.gpl
    refine osome_mk rfl (stores_of hb1 rfl (by simp) ?_)
    intro h2 hb2 k2 z2
    exact meet_mk (cs := []) () rfl rfl ⟨p1, c1, h1, o1, k1, hp1, k2, hb2⟩
  rintro ⟨⟩ h2 ⟨p1, c1, h1, o1, k1, hp1, k2, hb2⟩
  refine join_of (cs := []) (fun _ h' => ∃ es', es'.length ≤ 4001 ∧ BookTo h gb b pl pw es p h' es') ?_ ?_
  · refine osome_mk rfl ?_
    rw [add_box]
    refine loads_box hb2 ((pw, es.length, cw), ()) rfl ?_
    dsimp only [flat, unc, unc1, List.nil_append, List.cons_append]
    have s2 : SL h2 b 35 4 p l c (ts.map enc) := (s.keep' k1 fun i hi => (hfresh i hi).2.1).keep' k2 fun i hi => by simp; exact (hfresh i hi).1
    have hpl : (ts.map enc).flatten.all plainV = true := by
      rw [List.all_eq_true]
      intro v hv
      obtain ⟨x, hx, hv⟩ := List.mem_flatten.1 hv
      obtain ⟨t, _, rfl⟩ := List.mem_map.1 hx
      simp only [enc, List.mem_cons, List.not_mem_nil, or_false] at hv
      rcases hv with rfl | rfl | rfl | rfl <;> rfl
    have g1 := k1.size
    have g2 := k2.size
    refine copy_of (e := 35) (z := .agg #[.int .i64 0, .string ⟨#[]⟩, .int .u32 0, .int .i64 0]) (sz := 4) (by' := 40) (b' := b) (by kernel_rfl) (by kernel_rfl) rfl s2 hpl (by omega) (by omega) (by omega) ?_
    intro q d h3 sq k3 hq
    have hb3 := hb2.keep k3 (by simp)
    refine ⟨⟨hb3.cells _ rfl, trivial⟩, ?_⟩
    have g3 := k3.size
    have w3 : SL h3 b 23 1 pw es.length cw (es.map Ent.two) := ((B.two.keep' k1 fun i hi hh => B.plw i hh hi).keep' k2 fun i hi => by simp; exact fun e => B.gpw (e ▸ hi)).keep' k3 (by simp)
    refine push_st (e := 23) (z := .slice none 0 0) (sz := 1) (by' := 24) (vs := [.slice q l d]) (by kernel_rfl) (by kernel_rfl) rfl (by omega) (by omega) (by kernel_rfl) rfl rfl w3 (by omega) (by omega) (by omega) (fun h' e => ⟨(hb3.keep e (by simp)).cells _ rfl, trivial⟩) ?_
    intro p2 c2 h4 o2 k4 hp2
    have hb4 := hb3.keep k4 B.gpw
    refine osome_mk rfl ?_
    rw [add_box]
    refine stores_of hb4 rfl (by simp) ?_
    intro h5 hb5 k5 z5
    have hb5 : Box h5 gb 40 [.slice p1 (es.length + 1) c1, .slice p2 (es.length + 1) c2, .int .i64 held0, .bool false] := hb5
    refine meet_mk (cs := []) () rfl rfl ⟨es ++ [⟨p, l, c, q, d, ts⟩], by simp; omega, p1, c1, p2, c2, ?_, ?_, ?_, ?_, ?_⟩
    · -- the book
      have bp1 : ∀ i, i ∈ blkOf p1 → i ∈ blkOf pl ∨ h.size ≤ i := by
        intro i hi
        rcases hp1 with rfl | ⟨a, rfl, ha⟩
        · exact .inl hi
        · simp [blkOf] at hi; right; omega
      have bp2 : ∀ i, i ∈ blkOf p2 → i ∈ blkOf pw ∨ h3.size ≤ i := by
        intro i hi
        rcases hp2 with rfl | ⟨a, rfl, ha⟩
        · exact .inl hi
        · simp [blkOf] at hi; right; omega
      have bq : ∀ i, i ∈ blkOf q → h2.size ≤ i ∧ i < h3.size := by
        intro i hi
        refine ⟨?_, (sq.blk hi).2⟩
        rcases hq with rfl | ⟨a, rfl, ha⟩
        · simp [blkOf] at hi
        · simp [blkOf] at hi; omega
      have lp1 : ∀ i, i ∈ blkOf p1 → i < h1.size := fun i hi => (o1.blk hi).2
      have lp : ∀ i, i ∈ blkOf p → i < h.size := fun i hi => (s.blk hi).2
      have o1' : SL h5 b 23 1 p1 (es.length + 1) c1 (es.map Ent.one ++ [[.slice p l c]]) := by
        refine (((o1.keep' k2 fun i hi => ?_).keep' k3 (by simp)).keep' k4 fun i hi hh => ?_).keep' k5 fun i hi => ?_
        · simp; intro e; subst e
          rcases bp1 i hi with hh | hh
          · exact B.gpl hh
          · have := hsz.1; omega
        · rcases bp1 i hi with h' | h'
          · exact B.plw i h' hh
          · have := hsz.2.2.1 i hh; omega
        · simp; intro e; subst e
          rcases bp1 i hi with hh | hh
          · exact B.gpl hh
          · have := hsz.1; omega
      have o2' : SL h5 b 23 1 p2 (es.length + 1) c2 (es.map Ent.two ++ [[.slice q l d]]) := o2.keep' k5 fun i hi => by
        simp; intro e; subst e
        rcases bp2 i hi with hh | hh
        · exact B.gpw hh
        · have := hsz.1; omega
      have kall : ∀ {e' : TypeId} {sz : Nat} {p' : Option Addr} {l' c' : Nat} {xs : List (List Value)}, SL h b e' sz p' l' c' xs → (∀ i, i ∈ blkOf p' → i ≠ gb ∧ i ∉ blkOf pl ∧ i ∉ blkOf pw) → SL h5 b e' sz p' l' c' xs := by
        intro e' sz p' l' c' xs s' hd
        exact ((((s'.keep' k1 fun i hi => (hd i hi).2.1).keep' k2 fun i hi => by simp; exact (hd i hi).1).keep' k3 (by simp)).keep' k4 fun i hi => (hd i hi).2.2).keep' k5 fun i hi => by simp; exact (hd i hi).1
      have hsq : SL h5 b 35 4 q l d (ts.map enc) := (sq.keep' k4 fun i hi hh => by have := (bq i hi).1; have := hsz.2.2.1 i hh; omega).keep' k5 fun i hi => by
        simp; intro e; subst e; have := (bq i hi).1; have := hsz.1; omega
      have hlen1 : (es ++ [(⟨p, l, c, q, d, ts⟩ : Ent)]).length = es.length + 1 := by simp
      refine ⟨⟨held0, by rw [hlen1]; exact hb5⟩, B.ge, by rw [hlen1, List.map_append]; exact o1', by rw [hlen1, List.map_append]; exact o2', ?_, ?_, ?_, ?_, ?_, ?_, ?_⟩
      · intro e he
        rcases List.mem_append.1 he with he | he
        · have hd := B.eg e he
          exact ⟨kall (B.ent e he).1 fun i hi => hd i (List.mem_append_left _ hi), kall (B.ent e he).2.1 fun i hi => hd i (List.mem_append_right _ hi), (B.ent e he).2.2⟩
        · have he : e = ⟨p, l, c, q, d, ts⟩ := by simpa using he
          subst he
          exact ⟨kall s fun i hi => ⟨(hfresh i hi).1, (hfresh i hi).2.1, (hfresh i hi).2.2.1⟩, hsq, hts⟩
      · intro hi
        rcases bp1 gb hi with hh | hh
        · exact B.gpl hh
        · have := hsz.1; omega
      · intro hi
        rcases bp2 gb hi with hh | hh
        · exact B.gpw hh
        · have := hsz.1; omega
      · intro i hi hi2
        rcases bp1 i hi with hh | hh <;> rcases bp2 i hi2 with h' | h'
        · exact B.plw i hh h'
        · have := hsz.2.1 i hh; omega
        · have := hsz.2.2.1 i h'; omega
        · have := lp1 i hi; omega
      · intro e he i hi
        rcases List.mem_append.1 he with he | he
        · have hd := B.eg e he i hi
          have hlt := hsz.2.2.2 e he i hi
          exact ⟨hd.1, fun hh => (bp1 i hh).elim hd.2.1 (by omega), fun hh => (bp2 i hh).elim hd.2.2 (by omega)⟩
        · have he : e = ⟨p, l, c, q, d, ts⟩ := by simpa using he
          subst he
          rcases List.mem_append.1 hi with hi | hi
          · have hd := hfresh i hi
            have hlt := lp i hi
            exact ⟨hd.1, fun hh => (bp1 i hh).elim hd.2.1 (by omega), fun hh => (bp2 i hh).elim hd.2.2.1 (by omega)⟩
          · have := bq i hi
            refine ⟨by have := hsz.1; omega, fun hh => ?_, fun hh => ?_⟩
            · have := lp1 i hh; omega
            · rcases bp2 i hh with hh | hh
              · have := hsz.2.2.1 i hh; omega
              · omega
      · intro e he i hi
        rcases List.mem_append.1 he with he | he
        · exact B.pq e he i hi
        · have he : e = ⟨p, l, c, q, d, ts⟩ := by simpa using he
          subst he
          intro hh
          have := (bq i hh).1
          have := lp i hi
          omega
      · refine List.pairwise_append.2 ⟨B.ee, by simp, ?_⟩
        intro e he f hf i hi hh
        have hf : f = ⟨p, l, c, q, d, ts⟩ := by simpa using hf
        subst hf
        rcases List.mem_append.1 hh with hh | hh
        · exact (hfresh i hh).2.2.2 e he hi
        · have := (bq i hh).1
          have := hsz.2.2.2 e he i hi
          omega
    · refine Ch.trans (Ch.trans (Ch.trans (Ch.trans (k1.mono fun i hi _ => by simp [hi]) k2 fun i hi _ => by simp at hi; simp [hi]) k3 (by simp)) k4 fun i hi _ => by simp [hi]) k5 fun i hi _ => by simp at hi; simp [hi]
    · intro i hi
      rcases hp1 with rfl | ⟨a, rfl, ha⟩
      · exact .inl hi
      · simp [blkOf] at hi; right; omega
    · intro i hi
      rcases hp2 with rfl | ⟨a, rfl, ha⟩
      · exact .inl hi
      · simp [blkOf] at hi; right; omega
    · intro e he i hi
      rcases List.mem_append.1 he with he | he
      · exact .inr (.inr ⟨e, he, hi⟩)
      · have he : e = ⟨p, l, c, q, d, ts⟩ := by simpa using he
        subst he
        rcases List.mem_append.1 hi with hi | hi
        · exact .inl hi
        · right; left
          rcases hq with rfl | ⟨a, rfl, ha⟩
          · simp [blkOf] at hi
          · simp [blkOf] at hi; omega
  · rintro ⟨⟩ h1 ⟨es1, hl1, pl1, cl1, pw1, cw1, B1, k1, a1, a2, a3⟩
    obtain ⟨held, hb⟩ := B1.box
    refine osome_mk rfl ?_
    rw [add_box]
    refine loads_box hb (held, ()) rfl ?_
    dsimp only [flat, unc, unc1, List.nil_append, List.cons_append]
    refine osome_mk rfl ?_
    rw [add_box]
    refine stores_of hb rfl (by simp) ?_
    intro h2 hb2 k2 z2
    refine loop_of (cs := []) (fun _ n h' => ∃ es', es'.length ≤ 4001 ∧ n = es'.length ∧ BookTo h gb b pl pw es p h' es') () es1.length rfl ⟨es1, hl1, rfl, pl1, cl1, pw1, cw1, B1.rebox k2 hb2, chGb k1 k2, a1, a2, a3⟩ ?_
    clear hb k2 hb2 z2 B1 k1 a1 a2 a3 hl1 es1
    rintro ⟨⟩ m h3 ⟨es1, hl1, rfl, hB⟩
    refine join_of (cs := []) (fun _ h' => ∃ es', es'.length = es1.length ∧ 1 < es'.length ∧ BookTo h gb b pl pw es p h' es') ?_ ?_
    · have hB0 := hB
      obtain ⟨pl1, cl1, pw1, cw1, B1, k1, a1, a2, a3⟩ := hB
      obtain ⟨held, hb⟩ := B1.box
      refine osome_mk rfl (loads_box hb ((pl1, es1.length, cl1), ()) rfl ?_)
      dsimp only [flat, unc, unc1, List.nil_append, List.cons_append]
      refine cond_mk (fun g1 => ?_) (fun g1 => ?_)
      · have g1 := of_decide_eq_true g1
        refine osome_mk rfl ?_
        rw [add_box]
        refine loads_box hb (held, ()) rfl ?_
        dsimp only [flat, unc, unc1, List.nil_append, List.cons_append]
        have mt : ∀ L, (T.again 1 []) [L, fun vs h' => ∃ y : HVs (flat []), vs = parts [] (hvs _ y) ∧ ∃ es', es'.length = es1.length ∧ 1 < es'.length ∧ BookTo h gb b pl pw es p h' es'] (fun v h' => v = .tuple #[] ∧ ∃ es', es'.length ≤ 4000 ∧ BookTo h gb b pl pw es p h' es') h3 :=
          fun L => meet_mk (cs := []) () rfl rfl ⟨es1, rfl, by omega, hB0⟩
        refine cond_mk (fun g2 => mt _) (fun g2 => ?_)
        refine osome_mk rfl (loads_box hb ((pl1, es1.length, cl1), ()) rfl ?_)
        dsimp only [flat, unc, unc1, List.nil_append, List.cons_append]
        refine cond_mk (fun g3 => mt _) (fun g3 => ?_)
        have g3 := of_decide_eq_false g3
        exact ⟨rfl, es1, by omega, hB0⟩
      · have g1 := of_decide_eq_false g1
        exact ⟨rfl, es1, by omega, hB0⟩
    · rintro ⟨⟩ h4 ⟨es2, hl2, hg2, hB⟩
      refine join_of (cs := []) (fun _ h' => ∃ es', es'.length = es1.length ∧ 1 < es'.length ∧ BookTo h gb b pl pw es p h' es') ?_ ?_
      · obtain ⟨pl1, cl1, pw1, cw1, B1, k1, a1, a2, a3⟩ := hB
        obtain ⟨held, hb⟩ := B1.box
        refine osome_mk rfl ?_
        rw [add_box]
        refine loads_box hb (false, ()) rfl ?_
        dsimp only [flat, unc, unc1, List.nil_append, List.cons_append]
        refine cond_f rfl (osome_mk rfl (loads_box hb ((pl1, es2.length, cl1), ()) rfl ?_))
        dsimp only [flat, unc, unc1, List.nil_append, List.cons_append]
        obtain ⟨q1, hq1, c1⟩ := B1.one.cells (i := 0) (by rw [List.length_map]; omega)
        obtain ⟨q2, hq2, c2⟩ := B1.two.cells (i := 0) (by rw [List.length_map]; omega)
        rw [List.getElem_map] at c1 c2
        have hent := B1.ent es2[0] (List.getElem_mem (by omega))
        generalize es2[0] = e at c1 c2 hent
        refine need_of ⟨by omega, by omega⟩ (osome_mk hq1 (loads_of ((e.p, e.l, e.c), ()) c1 ?_))
        dsimp only [flat, unc, unc1, List.nil_append, List.cons_append]
        refine osome_mk rfl ?_
        rw [add_box]
        refine loads_box hb ((pw1, es2.length, cw1), ()) rfl ?_
        dsimp only [flat, unc, unc1, List.nil_append, List.cons_append]
        refine need_of ⟨by omega, by omega⟩ (osome_mk hq2 (loads_of ((e.q, e.l, e.d), ()) c2 ?_))
        dsimp only [flat, unc, unc1, List.nil_append, List.cons_append]
        refine call_bool (bookSame_hc (by have := hent.2.2; omega) hent.1 hent.2.1) ?_
        refine ⟨⟨hb.cells _ rfl, hb.cells _ rfl, ?_, trivial⟩, ?_⟩
        · exact hb.cells _ rfl
        refine osome_mk rfl ?_
        rw [add_box]
        refine stores_of hb rfl (by simp) ?_
        intro h5 hb5 k5 z5
        exact meet_mk (cs := []) () rfl rfl ⟨es2, hl2, hg2, pl1, cl1, pw1, cw1, B1.rebox k5 hb5, chGb k1 k5, a1, a2, a3⟩
      · clear hB hl2 hg2 es2
        rintro ⟨⟩ h5 ⟨es2, hl2, hg2, pl1, cl1, pw1, cw1, B0, k0, a1, a2, a3⟩
        obtain ⟨held5, hb5⟩ := B0.box
        refine osome_mk rfl ?_
        rw [add_box]
        refine loads_box hb5 (held5, ()) rfl ?_
        dsimp only [flat, unc, unc1, List.nil_append, List.cons_append]
        refine osome_mk rfl (loads_box hb5 ((pl1, es2.length, cl1), ()) rfl ?_)
        dsimp only [flat, unc, unc1, List.nil_append, List.cons_append]
        obtain ⟨q1, hq1, c1⟩ := B0.one.cells (i := 0) (by rw [List.length_map]; omega)
        rw [List.getElem_map] at c1
        generalize es2[0] = e at c1
        refine need_of ⟨by omega, by omega⟩ (osome_mk hq1 (loads_of ((e.p, e.l, e.c), ()) c1 ?_))
        dsimp only [flat, unc, unc1, List.nil_append, List.cons_append]
        refine osome_mk rfl ?_
        rw [add_box]
        refine stores_of hb5 rfl (by simp) ?_
        intro h6 hb6 k6 z6
        have B1 := B0.rebox k6 hb6
        have k1 := chGb k0 k6
        obtain ⟨held, hb⟩ := B1.box
        have hcap : ∀ {p' : Option Addr} {c' : Nat} {xs : List (List Value)}, SL h6 b 23 1 p' es2.length c' xs → es2.length ≤ c' := by
          intro p' c' xs s'
          cases p' with
          | none =>
            have h1 := s'.2.2.2
            have h2 := s'.1
            rw [h1, List.length_nil] at h2; omega
          | some a => obtain ⟨_, _, _, _, _, hh, _⟩ := s'.2.2; exact hh.1
        have hc1 := hcap B1.one
        have hc2 := hcap B1.two
        refine osome_mk rfl (loads_box hb ((pl1, es2.length, cl1), ()) rfl ?_)
        dsimp only [flat, unc, unc1, List.nil_append, List.cons_append]
        refine need_of ⟨by omega, by omega, by omega⟩ (osome_mk rfl ?_)
        rw [if_neg (by omega)]
        refine stores_of hb rfl (by simp) ?_
        intro h7 hb7 k7 z7
        have hb7 : Box h7 gb 40 [.slice (pl1.map fun a => a.add 1) (es2.length - 1) (cl1 - 1), .slice pw1 es2.length cw1, .int .i64 held, .bool false] := hb7
        refine osome_mk rfl ?_
        rw [add_box]
        refine loads_box hb7 ((pw1, es2.length, cw1), ()) rfl ?_
        dsimp only [flat, unc, unc1, List.nil_append, List.cons_append]
        refine need_of ⟨by omega, by omega, by omega⟩ (osome_mk rfl ?_)
        rw [if_neg (by omega), add_box]
        refine stores_of hb7 rfl (by simp) ?_
        intro h8 hb8 k8 z8
        have hb8 : Box h8 gb 40 [.slice (pl1.map fun a => a.add 1) (es2.length - 1) (cl1 - 1), .slice (pw1.map fun a => a.add 1) (es2.length - 1) (cw1 - 1), .int .i64 held, .bool false] := hb8
        have k78 : Ch [gb] h6 h8 := k7.trans k8 (fun i hi _ => hi)
        refine again_mk (cs := []) () (es2.length - 1) rfl (by omega) rfl ⟨es2.drop 1, by simp; omega, by simp, _, _, _, _, B1.tail k78 (by omega) hb8, chGb k1 k78, ?_, ?_, fun e he => a3 e (List.mem_of_mem_drop he)⟩
        · rw [blkOf_add]; exact a1
        · rw [blkOf_add]; exact a2
end Go.Sx
