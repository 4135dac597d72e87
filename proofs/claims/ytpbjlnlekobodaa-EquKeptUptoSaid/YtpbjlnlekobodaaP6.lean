/- Contracts over heaps, and plain laws, for the functions that the laws of chapter 11 call, part 6: slices.Clone of terms, equ.Solve over heaps: a name on a cycle, the first; or all solved, in new memory, each apart. equ.Put, spandrelkeep.SameEqus, the law's 'of' and 'right' over heaps. Chapter 11's runs: the law's 'known' over heaps; EquNumbers. EquNumbers over heaps. Lists of equs that are handed in: what they read as, and what lies in memory. Condition: as each statement says. -/
import Derived.Test.YtpbjlnlekobodaaP5
import Derived.Test.YtpbjlnlekobodaaP1
import Derived.Test.YtpbjlnlekobodaaEquW
import Derived.Test.YtpbjlnlekobodaaP3
set_option linter.unusedVariables false
set_option linter.unusedSimpArgs false
set_option linter.deprecated false
set_option maxRecDepth 100000
namespace Go.Sx
open Go.Proofs
/-- append of a list to an empty literal. -/
theorem copyLit_of {P : Program} {h : Hp} {L : Lp} {K : Value → Hp → Prop} {k : Option Addr → Nat → Nat → T} {t ty e : TypeId} {z : Value} {sz by' : Nat} (ht : P.underlying t = some (.slice e)) (hinf : (P.info? e).map (fun i => (i.zero, i.size, i.bytes)) = some (some z, sz, by'))
    (hzs : z.cells.size = sz) {p : Option Addr} {l c : Nat} {ys : List (List Value)} (hsrc : (p = none ∧ ys = []) ∨ ∃ a, p = some a ∧ cellsAt h a 0 ys.flatten) (hl : l = ys.length) (hys : ∀ y, y ∈ ys → y.length = sz) (hpl : ys.flatten.all plainV = true) (hby : (2 * l + 1024) * by' ≤ 2 ^ 48) (hlm : l ≤ 2 ^ 48)
    (hk : ∀ p' c' h', SL h' h.size e sz p' l c' ys → Ext h h' → k p' l c' L K h') :
    T.sem P (Instr.buildSlice t 0 #[]) false [(false, [.slice 0])] (fun q m cc => T.sem P (Builtin.append_ #[t, t] ty #[.slice q m cc, .slice p l c]) false [(false, [.slice 0])] k) L K h := by
  obtain ⟨i, hi, hz, rfl, rfl⟩ := inf_of hinf
  refine sem_slice ?_
  unfold Instr.buildSlice
  rw [semW_bind', semW_underlying ht]
  simp only
  rw [semW_bind', semW_sizeOf hi, cellsOf_info hi]
  rw [if_neg (by omega), if_pos (by omega)]
  simp only [Nat.zero_mul, pure_bind]
  have hf : ∀ (f : Nat → Option (Nat × Nat)) (b : Array Value), Instr.fill f b [] = some b := fun f b => rfl
  have hb : Array.map (fun x => (#[] : Array Value)[x % (#[] : Array Value).size]!) (Array.range 0) = #[] := by simp
  rw [hf, hb]
  show ∃ p1 l1 c1, _ ∧ _
  refine ⟨_, _, _, rfl, ?_⟩
  have s1 : SL (h.push (.cells #[] e)) h.size e i.size (some ⟨h.size, 0, none⟩) 0 0 [] := ⟨rfl, by simp, h.size, [], [], rfl, Nat.le_refl _, by omega, Box.new h e [], by simp⟩
  have e1 : Ext h (h.push (.cells #[] e)) := Ext.push _ _
  refine sem_slice ?_
  rcases hsrc with ⟨rfl, rfl⟩ | ⟨a, rfl, hc⟩
  · have hl0 : l = 0 := hl
    subst hl0
    simp [Builtin.append_, semW_bind', semW_underlying ht, semW_sizeOf hi, Builtin.lenOf, Builtin.firstCells, storeCells]
    exact ⟨_, _, _, rfl, hk _ _ _ s1 e1⟩
  · have := append_of (P := P) (h := h.push (.cells #[] e)) (K := fun v h' => ∃ p l c, v = .slice p l c ∧ k p l c L K h') (ty := ty) (ys := ys) ht hi hz hzs s1 hl hys (cellsAt_keep e1 (by simp) _ _ hc) hpl (by simpa using hby) (by simpa using hlm) (by simp) (cc := c) ?_
    · exact this
    · intro p' c' h2 s2 c2 hp'
      rw [Nat.zero_add, List.nil_append] at *
      exact ⟨p', l, c', rfl, hk p' c' h2 s2 (Ch.trans e1 c2 fun j hj hl => by simp [blkOf] at hj; omega)⟩
theorem vwT_src {h : Hp} {p : Option Addr} {l : Nat} {us : Tms} (v : VwT h p l us) : (p = none ∧ us.map encT = []) ∨ ∃ a, p = some a ∧ cellsAt h a 0 (us.map encT).flatten := by
  cases p with
  | none =>
    left
    refine ⟨rfl, ?_⟩
    cases us with
    | nil => rfl
    | cons u us =>
      obtain ⟨a, ha, _⟩ := v.cells 0 (by simp)
      cases ha
  | some a => exact .inr ⟨a, rfl, v.flat⟩
theorem encT_len (us : Tms) : ∀ y, y ∈ us.map encT → y.length = 2 := by
  intro y hy
  obtain ⟨u, _, rfl⟩ := List.mem_map.1 hy
  rfl
/-- slices.Clone of terms. -/
theorem clone_hc {h : Hp} {p : Option Addr} {l c : Nat} {us : Tms} (v : VwT h p l us) (hl : us.length ≤ 2 ^ 40) :
    HC Try.prog 29 #[.slice p l c] h fun w h' => (∃ p' l' c', w = .slice p' l' c' ∧ SL h' h.size 40 2 p' l' c' (us.map encT)) ∧ Ext h h' := by
  refine hcr_of (args := [.slice p l c]) mixed Try.func29 (by kernel_rfl) (t_slices_Clone___api_Term_api_Term__eq p l c) ?_
  unfold t_slices_Clone___api_Term_api_Term_
  have hll := v.len
  cases p with
  | none =>
    rcases vwT_src v with ⟨_, h2⟩ | ⟨a, ha, _⟩
    · refine cond_t rfl ?_
      refine ⟨⟨none, 0, 0, rfl, ?_⟩, Ch.refl _ _⟩
      rw [h2]
      exact SL.nil _ _ _ _
    · cases ha
  | some a =>
    refine cond_f rfl ?_
    refine copyLit_of (e := 40) (z := .agg #[.string ⟨#[]⟩, .int .u32 0]) (sz := 2) (by' := 24) und67 termZ rfl (vwT_src v) (by simpa using hll) (encT_len us) (encT_plain us) (by omega) (by omega) ?_
    intro p' c' h' s' e'
    exact ⟨⟨p', l, c', rfl, s'⟩, e'⟩
theorem CoS.keepW {r : SF} {h h' : Hp} {es : List EqM} {p0 : Option Addr} {l0 c0 : Nat} {ws : List Nat} (m : CoS r h es p0 l0 c0) (lo : LoS r es p0) (k : Ch ws h h') (hw : ∀ i, i ∈ ws → i = r.gD ∨ r.V < i) : CoS r h' es p0 l0 c0 := by
  have o := lo.ord
  unfold SF.ord at o
  have nin : ∀ i, i ≠ r.gD → i ≤ r.V → i ∉ ws := by
    intro i h1 h2 hi
    have := hw i hi
    omega
  obtain ⟨n, mA⟩ := m.mA
  exact ⟨m.bE.keep k (nin _ (by omega) (by omega)), m.bA.keep k (nin _ (by omega) (by omega)), ⟨n, mA.keep k (nin _ (by omega) (by omega))⟩, m.bV.keep k (nin _ (by omega) (by omega)), m.bD.keep k (nin _ (by omega) (by omega)),
    m.vw.keepW k (fun i hi => nin _ (by have := lo.l0 i hi; omega) (by have := lo.l0 i hi; omega)) (fun e he hne i hi => nin _ (by have := lo.li e he hne i hi; omega) (by have := lo.li e he hne i hi; omega))⟩
/-- A list of equs of one's own, each with its own list of terms, all apart. -/
structure OwnE (h : Hp) (b : Nat) (p : Option Addr) (l c : Nat) (ms : List EqM) : Prop where
  out : SL h b 38 3 p l c (ms.map eqV)
  inn : ∀ m, m ∈ ms → SL h b 40 2 m.p m.l m.c (m.x.terms.map encT)
  ap : ms.Pairwise fun x y => ∀ i, i ∈ blkOf x.p → ∀ j, j ∈ blkOf y.p → i < j
  dj : ∀ m, m ∈ ms → ∀ j, j ∈ blkOf m.p → j ∉ blkOf p
theorem OwnE.keep {ws : List Nat} {h h' : Hp} {b : Nat} {p : Option Addr} {l c : Nat} {ms : List EqM} (o : OwnE h b p l c ms) (k : Ch ws h h') (hw : ∀ i, i ∈ ws → i < b ∨ h.size ≤ i) : OwnE h' b p l c ms :=
  ⟨o.out.keep' k (fun i hi h => by have := o.out.blk hi; have := hw i h; omega), fun m hm => (o.inn m hm).keep' k (fun i hi h => by have := (o.inn m hm).blk hi; have := hw i h; omega), o.ap, o.dj⟩
theorem vwE_own {h : Hp} {b : Nat} {p : Option Addr} {l c : Nat} {ms : List EqM} (o : OwnE h b p l c ms) : VwE h p l ms :=
  ⟨by rw [o.out.1, List.length_map], fun i hi => by
    obtain ⟨a, ha, hc⟩ := o.out.cells (i := i) (by simpa using hi)
    rw [List.getElem_map] at hc
    exact ⟨a, ha, hc⟩, fun m hm => vwT_sl (o.inn m hm)⟩
theorem und22 : Try.prog.underlying 22 = some (.slice 38) := by kernel_rfl
theorem equZ : (Try.prog.info? 38).map (fun i => (i.zero, i.size, i.bytes)) = some (some (.agg #[.string ⟨#[]⟩, .slice none 0 0, .int .u32 0]), 3, 48) := by kernel_rfl
/-- One equ more. -/
theorem OwnE.push {h h1 : Hp} {b : Nat} {p p' : Option Addr} {l l' c c' : Nat} {ms : List EqM} (o : OwnE h b p l c ms) {m : EqM} (hm : SL h b 40 2 m.p m.l m.c (m.x.terms.map encT)) (hnew : ∀ i, i ∈ blkOf m.p → (∀ y, y ∈ ms → ∀ j, j ∈ blkOf y.p → j < i) ∧ i ∉ blkOf p)
    (s' : SL h1 b 38 3 p' l' c' ((ms ++ [m]).map eqV)) (k : Ch (blkOf p) h h1) (hp : ∀ i, i ∈ blkOf p' → i ∈ blkOf p ∨ h.size ≤ i) : OwnE h1 b p' l' c' (ms ++ [m]) := by
  have hdj : ∀ y, y ∈ ms ++ [m] → ∀ j, j ∈ blkOf y.p → j ∉ blkOf p ∧ j < h.size := by
    intro y hy j hj
    rcases List.mem_append.1 hy with h | h
    · exact ⟨o.dj y h j hj, ((o.inn y h).blk hj).2⟩
    · rw [List.mem_singleton.1 h] at hj
      exact ⟨(hnew j hj).2, (hm.blk hj).2⟩
  refine ⟨s', fun y hy => ?_, ?_, fun y hy j hj hp' => ?_⟩
  · have hb := hdj y hy
    rcases List.mem_append.1 hy with h | h
    · exact (o.inn y h).keep' k fun i hi => (hb i hi).1
    · have h := List.mem_singleton.1 h
      subst h
      exact hm.keep' k fun i hi => (hb i hi).1
  · rw [List.pairwise_append]
    refine ⟨o.ap, List.pairwise_singleton _ _, fun y hy z hz i hi j hj => ?_⟩
    rw [List.mem_singleton.1 hz] at hj
    exact (hnew j hj).1 y hy i hi
  · have := hdj y hy j hj
    rcases hp j hp' with h | h
    · exact this.1 h
    · omega
structure SolI (r : SF) (es : List EqM) (i : Nat) (p : Option Addr) (l c : Nat) (f : ByteArray → Option LinM) (ms : List EqM) (h : Hp) : Prop where
  dn : DnS r h es f
  own : OwnE h (r.V + 1) p l c ms
  ms : ms.map (fun m => (m.name, m.x)) = (es.take i).map (fun e => (e.name, solE es e.name))
  dd : ∀ s y, f s = some y → ∀ j, j ∈ blkOf y.p → j ∉ blkOf p
/-- What Solve comes to. -/
def SolveR (es : List EqM) (h : Hp) (w : Value) (h' : Hp) : Prop :=
  (∃ i, ∃ hi : i < es.length, OnC (edgE es) es[i].name ∧ (∀ j, (hj : j < i) → ¬ OnC (edgE es) es[j].name) ∧ w = .tuple #[.slice none 0 0, .int .i64 (i : Int), .int .i64 24]) ∨
  ((∀ v, ¬ OnC (edgE es) v) ∧ ∃ p' l' c' ms, w = .tuple #[.slice p' l' c', .int .i64 0, .int .i64 0] ∧ OwnE h' h.size p' l' c' ms ∧ ms.map (fun m => (m.name, m.x)) = es.map (fun e => (e.name, solE es e.name)))
abbrev slCs : List Comp := [(false, [.slice 0]), (false, [.int .i64]), (false, [.int .i64]), (false, [.int .i64])]
theorem solveAll_hc {h : Hp} {p : Option Addr} {l c : Nat} {es : List EqM} (v : VwE h p l es) (eo : EqsSm es) (hp : ∀ i, i ∈ blkOf p → i < h.size) (hlen : es.length ≤ 2 ^ 20) :
    HC Try.prog 9 #[.slice p l c] h fun w h' => SolveR es h w h' ∧ Ext h h' := by
  refine hcr_of (args := [.slice p l c]) mixed Try.func9 (by kernel_rfl) (t_equ_Solve_eq p l c) ?_
  unfold t_equ_Solve
  have hown := ownE_mem es
  have hll := v.len
  refine newB ?_
  intro h1 b1 e1 z1
  refine loads_box b1 ((p, l, c), ()) rfl ?_
  dsimp only [flat, unc, unc1, List.nil_append, List.cons_append]
  refine call_of (turning_hc (c := c) (v.keep e1) eo.toEqsOk (fun i hi => by have := hp i hi; omega)) ?_
  rintro _ h2 ⟨⟨g, n, rfl, mB, hg⟩, e2⟩
  refine ⟨(some g, ()), rfl, ?_⟩
  dsimp only [flat, unc, unc1, List.nil_append, List.cons_append]
  have hback := turnF_back (succ := succL (linE es)) eo.nodup (fun s => (hown s).1)
  generalize (turnF (ownE es) (succL (linE es)) (namesE es)).back = back at mB hback
  have b2 := b1.keep e2 (by simp)
  have e02 := e1.trans e2
  refine loads_box b2 ((p, l, c), ()) rfl ?_
  dsimp only [flat, unc, unc1, List.nil_append, List.cons_append]
  refine loop_of (cs := slCs) (fun x w h' => ∃ i : Nat, x.2.2.2.1 = (i : Int) ∧ i ≤ es.length ∧ w = es.length - i ∧ (∀ j, (hj : j < i) → ∀ hl : j < es.length, ¬ OnC (edgE es) es[j].name) ∧ Ext h2 h') ((none, 0, 0), (0 : Int), (0 : Int), (0 : Int), ()) es.length rfl ⟨0, rfl, by omega, by omega, fun j hj => by omega, Ch.refl _ _⟩ ?_
  rintro ⟨⟨p9, l10, l11⟩, n12, n13, n14, ⟨⟩⟩ w h3 ⟨i, hi, hile, rfl, hno, e3⟩
  simp only at hi
  subst hi
  dsimp only [flat, unc, unc1, List.nil_append, List.cons_append]
  have e03 := e02.trans e3
  refine cond_mk (fun g1 => ?_) (fun g1 => ?_)
  · have g1 := of_decide_eq_true g1
    have hilt : i < es.length := by omega
    refine need_of ⟨by omega, by omega⟩ ?_
    obtain ⟨a, ha, hc⟩ := (v.keep e03).cells i hilt
    refine osome_mk ha ?_
    rw [show Int.toNat (i : Int) = i by omega]
    have hes : ∀ s, OnC (edgE es) es[i].name ↔ OnC (edgE es) es[i].name := fun s => Iff.rfl
    generalize hee : es[i] = e at hc hes
    refine loads_of (e.name, (e.p, e.l, e.c), (e.x.num : Int), ()) hc ?_
    dsimp only [flat, unc, unc1, List.nil_append, List.cons_append]
    refine newB ?_
    intro h4 b4 e4 z4
    refine stores_of b4 rfl (by simp) ?_
    intro h5 b5 k5 z5
    have b5 : Box h5 h3.size 38 [.string e.name, .slice e.p e.l e.c, .int .u32 e.x.num] := b5
    have e35 : Ext h3 h5 := Ch.trans e4 k5 (fun j hj hl => by simp at hj; omega)
    refine loads_box b5 (e.name, ()) rfl ?_
    dsimp only [flat, unc, unc1, List.nil_append, List.cons_append]
    refine lookB ((mB.keep e3 (by simp)).keep e35 (by simp)) e.name ?_
    refine cond_mk (fun g2 => ?_) (fun g2 => ?_)
    · have g2 : (back e.name).getD false = true := g2
      refine ⟨.inl ⟨i, hilt, ?_, fun j hj => hno j hj (by omega), rfl⟩, e03.trans e35⟩
      rw [hee]
      exact (hback _).1 g2
    · have g2 : (back e.name).getD false = false := g2
      have hw : IntKind.wrap .i64 ((i : Int) + 1) = ((i + 1 : Nat) : Int) := by rw [wrap_i64 (by omega) (by omega)]; omega
      refine again_mk (cs := slCs) ((p9, l10, l11), n12, n13, ((i + 1 : Nat) : Int), ()) (es.length - (i + 1)) rfl (by omega) (by rw [hw]; rfl) ⟨i + 1, rfl, by omega, rfl, fun j hj hl => ?_, e3.trans e35⟩
      by_cases hji : j = i
      · subst hji
        rw [hee]
        intro hc
        have := (hback _).2 hc
        rw [g2] at this; cases this
      · exact hno j (by omega) hl
  · have g1 := of_decide_eq_false g1
    have hc : ∀ v, ¬ OnC (edgE es) v := by
      intro s hs
      obtain ⟨j, hj, hjs⟩ := List.getElem_of_mem ((hown s).1 hs.isOwn)
      have hj' : j < es.length := by simpa [namesE] using hj
      have : es[j].name = s := by rw [← hjs]; simp [namesE]
      exact hno j (by omega) hj' (by rw [this]; exact hs)
    have b3 := b2.keep e3 (by simp)
    refine loads_box b3 ((p, l, c), ()) rfl ?_
    dsimp only [flat, unc, unc1, List.nil_append, List.cons_append]
    refine call_of (numbers_hc (v.keep e03) eo.len eo.nodup eo.sz) ?_
    rintro _ h4 ⟨⟨gA, rfl, mA, hgA⟩, e4⟩
    refine ⟨(some gA, ()), rfl, ?_⟩
    dsimp only [flat, unc, unc1, List.nil_append, List.cons_append]
    have hgA4 := mA.lt
    refine newB ?_
    intro h5 b5 e5 z5
    refine stores_of b5 rfl (by simp) ?_
    intro h6 b6 k6 z6
    have b6 : Box h6 h4.size 65 [.map (some gA)] := b6
    have e46 : Ext h4 h6 := Ch.trans e5 k6 (fun j hj hl => by simp at hj; omega)
    refine makeF (en := eL) ?_
    intro h7 m7 e7 z7
    refine newB ?_
    intro h8 b8 e8 z8
    refine stores_of b8 rfl (by simp) ?_
    intro h9 b9 k9 z9
    have b9 : Box h9 h7.size 67 [.map (some h6.size)] := b9
    have e79 : Ext h7 h9 := Ch.trans e8 k9 (fun j hj hl => by simp at hj; omega)
    refine newB ?_
    intro h10 b10 e10 z10
    refine stores_of b10 rfl (by simp) ?_
    intro h11 b11 k11 z11
    have e911 : Ext h9 h11 := Ch.trans e10 k11 (fun j hj hl => by simp at hj; omega)
    have e711 := e79.trans e911
    have e611 := e7.trans e711
    have e411 := e46.trans e611
    have e011 := (e03.trans e4).trans e411
    have hz4 := e4.size
    have hz3 := e3.size
    have hz2 := e2.size
    generalize hr : (⟨h.size, gA, h4.size, h6.size, h7.size, h9.size⟩ : SF) = r
    have ho : r.ord := by
      subst hr
      unfold SF.ord
      dsimp only
      omega
    have hrE : r.E = h.size := by subst hr; rfl
    have hrV : r.V + 1 = h11.size := by subst hr; dsimp only; omega
    have hrV' : r.V = h9.size := by subst hr; rfl
    have hrD : r.gD = h6.size := by subst hr; rfl
    have co : CoS r h11 es p l c := by
      subst hr
      exact ⟨(b3.keep (e4.trans e411) (by simp)), b6.keep e611 (by simp), ⟨_, mA.keep e411 (by simp)⟩, b11, b9.keep e911 (by simp), v.keep e011⟩
    have dn : DnS r h11 es (fun _ => none) := ⟨⟨0, (by rw [hrD]; exact m7.keep e711 (by simp)), fun s y hy => by cases hy⟩, fun s y hy => by cases hy⟩
    have lo : LoS r es p := ⟨ho, fun i hi => by rw [hrE]; exact hp i hi, fun e he hne i hi => by rw [hrE]; exact (v.inn e he).ofLt hne i hi⟩
    have o' := ho
    unfold SF.ord at o'
    rw [show (⟨h.size, 0, none⟩ : Addr) = bx r.E by rw [hrE], show (⟨h9.size, 0, none⟩ : Addr) = bx r.V by rw [hrV']]
    refine loads_box co.bE ((p, l, c), ()) rfl ?_
    dsimp only [flat, unc, unc1, List.nil_append, List.cons_append]
    refine loop_of (cs := [(false, [.slice 0]), (false, [.int .i64])]) (fun x w h' => ∃ (i : Nat) (p' : Option Addr) (l' c' : Nat) (f : ByteArray → Option LinM) (ms : List EqM), x.1 = (p', l', c') ∧ x.2.1 = (i : Int) ∧ i ≤ es.length ∧ w = es.length - i ∧ SolI r es i p' l' c' f ms h' ∧ Ch [r.gD] h11 h')
      ((none, 0, 0), (0 : Int), ()) es.length rfl ⟨0, none, 0, 0, _, [], rfl, rfl, by omega, by omega, ⟨dn, ⟨SL.nil _ _ _ _, by simp, List.Pairwise.nil, by simp⟩, rfl, fun s y hy => by cases hy⟩, Ch.refl _ _⟩ ?_
    rintro ⟨⟨p26, l27, l28⟩, n29, ⟨⟩⟩ w h12 ⟨i, p', l', c', f, ms, hx, hi, hile, rfl, si, k12⟩
    simp only at hx hi
    obtain ⟨rfl, rfl, rfl⟩ := hx
    subst hi
    dsimp only [flat, unc, unc1, List.nil_append, List.cons_append]
    have co12 := co.keep lo k12
    have hz12 := k12.size
    have hmsl : ms.length = i := by have := congrArg List.length si.ms; simp at this; omega
    refine cond_mk (fun g2 => ?_) (fun g2 => ?_)
    · have g2 := of_decide_eq_true g2
      have hilt : i < es.length := by omega
      refine need_of ⟨by omega, by omega⟩ ?_
      obtain ⟨a, ha, hcc⟩ := co12.vw.cells i hilt
      refine osome_mk ha ?_
      rw [show Int.toNat (i : Int) = i by omega]
      have htk : es.take (i + 1) = es.take i ++ [es[i]] := List.take_succ_eq_append_getElem hilt
      have hmem : es[i].name ∈ namesE es := List.mem_map_of_mem (List.getElem_mem hilt)
      generalize es[i] = e at hcc htk hmem
      refine loads_of (e.name, (e.p, e.l, e.c), (e.x.num : Int), ()) hcc ?_
      dsimp only [flat, unc, unc1, List.nil_append, List.cons_append]
      refine newB ?_
      intro h13 b13 e13 z13
      refine stores_of b13 rfl (by simp) ?_
      intro h14 b14 k14 z14
      have b14 : Box h14 h12.size 38 [.string e.name, .slice e.p e.l e.c, .int .u32 e.x.num] := b14
      have e1214 : Ext h12 h14 := Ch.trans e13 k14 (fun j hj hl => by simp at hj; omega)
      have co14 := co12.keep lo (e1214.mono (by simp))
      have dn14 := si.dn.ext e1214
      have own14 := si.own.keep e1214 (by simp)
      refine loads_box co14.bV (.func (.func 27) #[] r.caps.toArray, ()) rfl ?_
      dsimp only [flat, unc, unc1, List.nil_append, List.cons_append]
      refine loads_box b14 (e.name, ()) rfl ?_
      dsimp only [flat, unc, unc1, List.nil_append, List.cons_append]
      refine callv_of (cap := r.caps) hb27 rfl (solve_ok eo lo hc (namesE es).length e.name (hg_all hown hc hmem) hmem h14 f co14 dn14) ?_
      rintro _ h15 ⟨y, f15, rfl, hyx, dn15, hfy, sb15, na15, k15⟩
      refine ⟨((y.p, y.l, y.c), (y.x.num : Int), ()), rfl, ?_⟩
      dsimp only [flat, unc, unc1, List.nil_append, List.cons_append]
      have own15 := own14.keep k15 (fun i hi => .inl (by simp at hi; omega))
      have co15 := co14.keep lo k15
      have hz15 := k15.size
      have b15 := b14.keep k15 (by simp; omega)
      obtain ⟨n15, m15⟩ := dn15.map
      have hyv := m15.inn _ y hfy
      refine newB ?_
      intro h16 b16 e16 z16
      refine stores_of b16 rfl (by simp) ?_
      intro h17 b17 k17 z17
      have b17 : Box h17 h15.size 36 [.slice y.p y.l y.c, .int .u32 (y.x.num : Int)] := b17
      have e1517 : Ext h15 h17 := Ch.trans e16 k17 (fun j hj hl => by simp at hj; omega)
      have b1417 := b15.keep e1517 (by simp)
      refine loads_box b1417 (e.name, ()) rfl ?_
      dsimp only [flat, unc, unc1, List.nil_append, List.cons_append]
      refine loads_box b17 ((y.p, y.l, y.c), ()) rfl ?_
      dsimp only [flat, unc, unc1, List.nil_append, List.cons_append]
      rw [add_box]
      refine loads_box b17 ((y.x.num : Int), ()) rfl ?_
      dsimp only [flat, unc, unc1, List.nil_append, List.cons_append]
      have hyl : y.x.terms.length ≤ 2 ^ 20 := by rw [hyx]; exact eo.sol_len hc hmem
      refine call_of (clone_hc (c := y.c) (hyv.keep e1517 (by simp)) (by omega)) ?_
      rintro _ h18 ⟨⟨pc, lc, cc, rfl, sc⟩, e18⟩
      refine ⟨((pc, lc, cc), ()), rfl, ?_⟩
      dsimp only [flat, unc, unc1, List.nil_append, List.cons_append]
      have e1518 := e1517.trans e18
      have own18 := own15.keep e1518 (by simp)
      have b1418 := b1417.keep e18 (by simp)
      have b1718 := b17.keep e18 (by simp)
      have dn18 := dn15.ext e1518
      have hz17 := e1517.size
      have hz18 := e18.size
      have stB : ∀ h', Box h' h12.size 38 [.string e.name, .slice e.p e.l e.c, .int .u32 e.x.num] → Box h' h15.size 36 [.slice y.p y.l y.c, .int .u32 (y.x.num : Int)] → T.stab h' [(⟨h15.size, 0 + 1, none⟩, [.int .u32 (y.x.num : Int)]), (⟨h15.size, 0, none⟩, [.slice y.p y.l y.c]), (⟨h12.size, 0, none⟩, [.string e.name])] :=
        fun h' b1 b2 => ⟨b2.cells _ rfl, b2.cells _ rfl, b1.cells _ rfl, trivial⟩
      refine ⟨⟨b1718.cells _ rfl, b1418.cells _ rfl, trivial⟩, ?_⟩
      have hol : l27 = ms.length := by rw [si.own.out.1, List.length_map]
      refine push_st (vs := eqV ⟨e.name, pc, lc, cc, y.x⟩) und22 equZ rfl (by omega) (by omega) (by kernel_rfl) rfl rfl own18.out (by omega) (by omega) (by omega) (fun h' ex => stB h' (b1418.keep ex (by simp)) (b1718.keep ex (by simp))) ?_
      intro p' c' h19 s19 k19 hp19
      have hbb : ∀ j, j ∈ blkOf p26 → r.V < j ∧ j < h12.size := fun j hj => by have := si.own.out.blk hj; omega
      refine ⟨stB h19 (b1418.keep k19 (fun hj => by have := hbb _ hj; omega)) (b1718.keep k19 (fun hj => by have := hbb _ hj; omega)), ?_⟩
      have hw : IntKind.wrap .i64 ((i : Int) + 1) = ((i + 1 : Nat) : Int) := by rw [wrap_i64 (by omega) (by omega)]; omega
      have hp19' : ∀ j, j ∈ blkOf p' → j ∈ blkOf p26 ∨ h18.size ≤ j := by
        intro j hj
        rcases hp19 with h | ⟨a, h, hle⟩
        · rw [h] at hj; exact .inl hj
        · rw [h] at hj; simp [blkOf] at hj; subst hj; exact .inr hle
      refine again_mk (cs := [(false, [.slice 0]), (false, [.int .i64])]) ((p', l27 + 1, c'), ((i + 1 : Nat) : Int), ()) (es.length - (i + 1)) rfl (by omega) (by rw [hw]; rfl)
        ⟨i + 1, p', l27 + 1, c', f15, ms ++ [⟨e.name, pc, lc, cc, y.x⟩], rfl, rfl, by omega, rfl, ⟨?_, ?_, ?_, fun s z hz j hj hjp => ?_⟩, ?_⟩
      · obtain ⟨n18, m18⟩ := dn18.map
        refine ⟨⟨n18, m18.keep k19 (fun hj => by have := hbb _ hj; omega) (fun s z hz j hj => ?_)⟩, fun s z hz => ?_⟩
        · rcases na15 s z hz with h | h
          · exact si.dd s z h j hj
          · intro hjp
            have := h j hj
            have := hbb j hjp
            have := e1214.size
            omega
        · obtain ⟨a, b, c⟩ := dn18.of s z hz
          refine ⟨a, b, fun i hi => ?_⟩
          have := c i hi
          have := k19.size
          omega
      · refine own18.push (m := ⟨e.name, pc, lc, cc, y.x⟩) (sc.mono (by omega)) (fun j hj => ?_) (by simpa using s19) k19 hp19'
        have hj2 := sc.blk hj
        refine ⟨fun z hz k hk => ?_, fun hjp => ?_⟩
        · have := ((own15.inn z hz).blk hk).2
          omega
        · have := hbb j hjp
          have := e1214.size
          omega
      · rw [List.map_append, si.ms, htk, List.map_append]
        show _ ++ [(e.name, y.x)] = _
        rw [hyx]
        rfl
      · rcases hp19' j hjp with h | h
        · rcases na15 s z hz with k | k
          · exact si.dd s z k j hj h
          · have := k j hj
            have := hbb j h
            have := e1214.size
            omega
        · have := ((dn18.of s z hz).2.2 j hj).2
          omega
      · refine Ch.trans (Ch.trans (Ch.trans (Ch.trans k12 e1214 (by simp)) k15 (fun j hj _ => hj)) e1518 (by simp)) k19 (fun j hj hl => ?_)
        have := (si.own.out.blk hj).1
        omega
    · have g2 := of_decide_eq_false g2
      have htk : es.take i = es := List.take_of_length_le (by omega)
      have hms := si.ms
      rw [htk] at hms
      have hr11 := e011.size
      refine ⟨.inr ⟨hc, p26, l27, l28, ms, rfl, ⟨si.own.out.mono (by omega), fun m hm => (si.own.inn m hm).mono (by omega), si.own.ap, si.own.dj⟩, hms⟩, Ch.trans e011 k12 (fun j hj hl => ?_)⟩
      simp at hj
      omega
end Go.Sx

set_option linter.unusedVariables false
set_option maxRecDepth 100000
namespace Go.Sx
open Go.Proofs
/-- The expressions of names, as they lie in memory. -/
def linM (es : List EqM) (s : ByteArray) : Option LinM := ((plc es s).bind fun k => es[k]?).map fun e => ⟨e.p, e.l, e.c, e.x⟩
theorem linM_none {es : List EqM} {s : ByteArray} (h : s ∉ namesE es) : linM es s = none := by
  unfold linM
  rw [plc_none fun d hd e => h (by rw [← e]; exact List.mem_map_of_mem hd)]
  rfl
theorem linM_some {es : List EqM} {s : ByteArray} {y : LinM} (h : linM es s = some y) : ∃ e, e ∈ es ∧ e.name = s ∧ y = ⟨e.p, e.l, e.c, e.x⟩ ∧ linE es s = e.x := by
  unfold linM at h
  cases hp : plc es s with
  | none => rw [hp] at h; cases h
  | some k =>
    obtain ⟨hk, h1, h2⟩ := plc_some hp
    rw [hp, Option.bind_some, List.getElem?_eq_getElem hk] at h
    exact ⟨_, List.getElem_mem hk, h1, (Option.some.inj h).symm, h2⟩
theorem linM_snoc {es : List EqM} {e : EqM} (hn : ∀ d, d ∈ es → d.name ≠ e.name) : linM (es ++ [e]) = fset (linM es) e.name ⟨e.p, e.l, e.c, e.x⟩ := by
  funext s
  unfold linM
  rw [plc_snoc hn]
  by_cases h : s = e.name
  · subst h
    rw [fset_same, fset_same, Option.bind_some, List.getElem?_append_right (by omega)]
    simp
  · rw [fset_other _ _ h, fset_other _ _ h]
    cases hp : plc es s with
    | none => rfl
    | some k =>
      obtain ⟨hk, _, _⟩ := plc_some hp
      rw [Option.bind_some, Option.bind_some, List.getElem?_append_left hk]
def linO (es : List EqM) (s : ByteArray) : Option Lin := if ownE es s = true then some (linE es s) else none
theorem linM_x (es : List EqM) : (fun s => (linM es s).map (·.x)) = linO es := by
  funext s
  unfold linO ownE
  cases hp : plc es s with
  | none => simp [linM, hp]
  | some k =>
    obtain ⟨hk, _, h2⟩ := plc_some hp
    simp only [Option.isSome_some, if_true]
    rw [h2]
    unfold linM
    rw [hp, Option.bind_some, List.getElem?_eq_getElem hk]
    rfl
theorem put_hc {h : Hp} {p : Option Addr} {l c : Nat} {x : Lin} (v : VwT h p l x.terms) {q : Option Addr} {m d : Nat} {es : List EqM} (u : VwE h q m es) (eo : EqsOk es) (het : ∀ e, e ∈ es → e.x.terms.length ≤ 2 ^ 20) (htot : (es.flatMap (·.x.terms)).length ≤ 2 ^ 39) (hlen : es.length ≤ 2 ^ 20) (hxl : x.terms.length ≤ 2 ^ 20) (hxs : ∀ t, t ∈ x.terms → t.1.size ≤ maxLen) :
    HC Try.prog 15 #[linV p l c x, .slice q m d] h fun w h' => (∃ p' l' c', w = linV p' l' c' (linAdd (putS (linO es) x) linZ) ∧ SL h' h.size 40 2 p' l' c' ((linAdd (putS (linO es) x) linZ).terms.map encT)) ∧ Ext h h' := by
  refine hcr_of (args := [linV p l c x, .slice q m d]) mixed Try.func15 (by kernel_rfl) (t_equ_Put_eq p l c x.num q m d) ?_
  unfold t_equ_Put
  have hll := u.len
  refine newB ?_
  intro h1 b1 e1 z1
  refine newB ?_
  intro h2 b2 e2 z2
  refine makeF (en := eL) ?_
  intro h3 m3 e3 z3
  have b13 := (b1.keep e2 (by simp)).keep e3 (by simp)
  have b23 := b2.keep e3 (by simp)
  have e03 := (e1.trans e2).trans e3
  refine loop_of (cs := [(false, [.int .i64])]) (fun y w h' => ∃ (i : Nat) (n : Nat), y.1 = (i : Int) ∧ i ≤ es.length ∧ w = es.length - i ∧ MapF eL h' h2.size (linM (es.take i)) n ∧ Ch [h2.size] h3 h') ((0 : Int), ()) es.length rfl
    ⟨0, 0, rfl, by omega, by omega, m3, Ch.refl _ _⟩ ?_
  rintro ⟨n5, ⟨⟩⟩ w h4 ⟨i, n, hi, hile, rfl, m4, k4⟩
  simp only at hi
  subst hi
  dsimp only [flat, unc, unc1, List.nil_append, List.cons_append]
  have e04 : Ext h h4 := Ch.trans e03 k4 (fun j hj hl => by simp at hj; omega)
  have hz4 := k4.size
  refine cond_mk (fun g1 => ?_) (fun g1 => ?_)
  · have g1 := of_decide_eq_true g1
    have hilt : i < es.length := by omega
    refine need_of ⟨by omega, by omega⟩ ?_
    obtain ⟨a, ha, hc⟩ := (u.keep e04).cells i hilt
    refine osome_mk ha ?_
    rw [show Int.toNat (i : Int) = i by omega]
    have htk : es.take (i + 1) = es.take i ++ [es[i]] := List.take_succ_eq_append_getElem hilt
    have hsz := eo.sz es[i] (List.getElem_mem hilt)
    have hnd : ∀ d, d ∈ es.take i → d.name ≠ es[i].name := by
      intro d hd he
      obtain ⟨j, hj, rfl⟩ := List.getElem_of_mem hd
      rw [List.length_take] at hj
      rw [List.getElem_take] at he
      have hn : (es.map (·.name)).Nodup := eo.nodup
      exact List.pairwise_iff_getElem.1 hn j i (by rw [List.length_map]; omega) (by rw [List.length_map]; omega) (by omega) (by simpa using he)
    generalize es[i] = e at hc htk hsz hnd
    refine loads_of (e.name, (e.p, e.l, e.c), (e.x.num : Int), ()) hc ?_
    dsimp only [flat, unc, unc1, List.nil_append, List.cons_append]
    refine newB ?_
    intro h5 b5 e5 z5
    refine stores_of b5 rfl (by simp) ?_
    intro h6 b6 k6 z6
    have b6 : Box h6 h4.size 38 [.string e.name, .slice e.p e.l e.c, .int .u32 e.x.num] := b6
    have e46 : Ext h4 h6 := Ch.trans e5 k6 (fun j hj hl => by simp at hj; omega)
    refine loads_box b6 (e.name, ()) rfl ?_
    dsimp only [flat, unc, unc1, List.nil_append, List.cons_append]
    rw [add_box]
    refine loads_box b6 ((e.p, e.l, e.c), (e.x.num : Int), ()) rfl ?_
    dsimp only [flat, unc, unc1, List.nil_append, List.cons_append]
    refine putLin (m4.keep e46 (by simp)) hsz ⟨e.p, e.l, e.c, e.x⟩ ?_
    intro h7 m7 k7 z7
    have hw : IntKind.wrap .i64 ((i : Int) + 1) = ((i + 1 : Nat) : Int) := by rw [wrap_i64 (by omega) (by omega)]; omega
    refine again_mk (cs := [(false, [.int .i64])]) (((i + 1 : Nat) : Int), ()) (es.length - (i + 1)) rfl (by omega) (congrArg (fun z => [Value.int .i64 z]) hw) ⟨i + 1, _, rfl, by omega, rfl, by rw [htk, linM_snoc hnd]; exact m7, Ch.trans (Ch.trans k4 e46 (by simp)) k7 (fun j hj _ => hj)⟩
  · have g1 := of_decide_eq_false g1
    have hii : es.take i = es := List.take_of_length_le (by omega)
    rw [hii] at m4
    have b14 := b13.keep k4 (by simp; omega)
    have b24 := b23.keep k4 (by simp; omega)
    refine loads_box b14 ((p, l, c), (x.num : Int), ()) rfl ?_
    dsimp only [flat, unc, unc1, List.nil_append, List.cons_append]
    have mL : MapL h4 h2.size (linM es) n := ⟨m4, fun s y hy => by
      obtain ⟨e, he, _, rfl, _⟩ := linM_some hy
      exact (u.inn e he).keep e04 (by simp)⟩
    have hlens : ∀ s y, linM es s = some y → y.x.terms.length ≤ 2 ^ 20 := fun s y hy => by
      obtain ⟨e, he, _, rfl, _⟩ := linM_some hy
      exact het e he
    have hz0 := e04.size
    refine call_of (put28_hc (c := c) (v.keep e04 (by simp)) mL (by omega) hxs (fun s y hy => ⟨by have := hlens s y hy; omega, by
        obtain ⟨e, he, _, rfl, _⟩ := linM_some hy
        exact eo.ts e he⟩) ?_) ?_
    · have := xpd_length (of := fun s => (linM es s).map (·.x)) (B := 2 ^ 20) (by omega) (fun s y hy => by
        cases hh : linM es s with
        | none => simp only [hh] at hy; cases hy
        | some z =>
          simp only [hh, Option.map_some, Option.some.injEq] at hy
          rw [← hy]; exact hlens s z hh) x.terms
      have h3 : x.terms.length * 2 ^ 20 ≤ 2 ^ 20 * 2 ^ 20 := Nat.mul_le_mul_right _ hxl
      omega
    · rintro _ h5 ⟨⟨p5, l5, c5, rfl, s5⟩, e5⟩
      rw [linM_x] at s5 ⊢
      have hlp : (putS (linO es) x).terms.length ≤ 2 ^ 40 := by
        have hn := putS_nf (linO es) x
        have h1 : ((putS (linO es) x).terms.map (·.1)).Nodup := List.pairwise_map.2 (hn.1.imp fun h => ltN_ne h)
        have h2 := nodup_le ((putS (linO es) x).terms.map (·.1)) ((x.terms ++ es.flatMap (·.x.terms)).map (·.1)) h1 (fun s hs => by
          obtain ⟨t, ht, rfl⟩ := List.mem_map.1 hs
          rcases mem_put ht with ⟨p, hp, e, _⟩ | ⟨p, y, u, hp, ho, hu, e⟩
          · rw [← e]; exact List.mem_map_of_mem (List.mem_append_left _ hp)
          · rw [← e]
            refine List.mem_map_of_mem (List.mem_append_right _ ?_)
            unfold linO at ho
            by_cases hw : ownE es p.1 = true
            · rw [if_pos hw] at ho
              obtain ⟨d, hd, _, hx⟩ := linE_mem ((ownE_mem es _).1 hw)
              have ho := Option.some.inj ho
              rw [← ho, hx] at hu
              exact List.mem_flatMap.2 ⟨d, hd, hu⟩
            · rw [if_neg hw] at ho; cases ho)
        rw [List.length_map, List.length_map, List.length_append] at h2
        omega
      refine ⟨((p5, l5, c5), ((putS (linO es) x).num : Int), ()), rfl, ?_⟩
      dsimp only [flat, unc, unc1, List.nil_append, List.cons_append]
      have hsz5 : ∀ t, t ∈ (putS (linO es) x).terms → t.1.size ≤ maxLen := by
        intro t ht
        rcases mem_put ht with ⟨p, hp, e, _⟩ | ⟨p, y, u, hp, ho, hu, e⟩
        · rw [← e]; exact hxs p hp
        · unfold linO at ho
          by_cases hw : ownE es p.1 = true
          · rw [if_pos hw] at ho
            obtain ⟨d, hd, _, hx⟩ := linE_mem ((ownE_mem es _).1 hw)
            have ho := Option.some.inj ho
            rw [← ho, hx] at hu
            rw [← e]; exact eo.ts d hd u hu
          · rw [if_neg hw] at ho; cases ho
      have ha := add_hc (h := h5) (p := p5) (q := none) (l := l5) (c := c5) (m := 0) (d := 0) (x := putS (linO es) x) (y := linZ) (vwT_sl s5) ⟨rfl, fun i hi => by simp [linZ] at hi⟩ (fun i hi => (s5.blk hi).2) (fun i hi => by simp [blkOf] at hi) (by simpa [linZ] using hlp) hsz5 (fun t ht => by simp [linZ] at ht)
      refine call_of ha ?_
      rintro _ h6 ⟨e6, p6, l6, c6, rfl, s6⟩
      refine ⟨((p6, l6, c6), ((linAdd (putS (linO es) x) linZ).num : Int), ()), rfl, ?_⟩
      dsimp only [flat, unc, unc1, List.nil_append, List.cons_append]
      have b6 := (b24.keep e5 (by simp)).keep e6 (by simp)
      have hz5 := e5.size
      refine stores_of b6 rfl (by simp) ?_
      intro h7 b7 k7 z7
      have b7 : Box h7 h1.size 36 [.slice p6 l6 c6, .int .u32 ((linAdd (putS (linO es) x) linZ).num : Int)] := b7
      refine loads_box b7 ((p6, l6, c6), ((linAdd (putS (linO es) x) linZ).num : Int), ()) rfl ?_
      have e06 := (e04.trans e5).trans e6
      exact ⟨⟨p6, l6, c6, rfl, (s6.keep' k7 (fun j hj => by have := (s6.blk hj).1; simp; omega)).mono (by omega)⟩, Ch.trans e06 k7 (fun j hj hl => by simp at hj; omega)⟩
theorem linAdd_zero {x : Lin} (h : Nf x.terms) (hn : x.num < 4294967296) : linAdd x linZ = x := by
  unfold linAdd linZ
  simp only [List.append_nil, Nat.add_zero, nrm_self h, Nat.mod_eq_of_lt hn]
abbrev eKey (e : EqM) : ByteArray × Lin := (e.name, e.x)
abbrev biCs : List Comp := [(false, [.bool]), (false, [.int .i64])]
theorem sameEqus_hc {h : Hp} {p q : Option Addr} {l m c d : Nat} {es fs : List EqM} (v : VwE h p l es) (w : VwE h q m fs) (hk : es.map eKey = fs.map eKey) (hl : es.length ≤ 2 ^ 40) (ht : ∀ e, e ∈ es → e.x.terms.length ≤ 2 ^ 60) :
    HC Try.prog 18 #[.slice p l c, .slice q m d] h fun r h' => r = .bool true ∧ Ext h h' := by
  refine hcr_of (args := [.slice p l c, .slice q m d]) mixed Try.func18 (by kernel_rfl) (t_spandrelkeep_SameEqus_eq p l c q m d) ?_
  unfold t_spandrelkeep_SameEqus
  have hv := v.len
  have hw := w.len
  have hef : es.length = fs.length := by have := congrArg List.length hk; simpa using this
  refine cond_f (by have : (l : Int) = (m : Int) := by omega
                    simp [this]) ?_
  refine loop_of (cs := biCs) (fun x n h' => ∃ i : Nat, x.2.1 = (i : Int) ∧ i ≤ es.length ∧ n = es.length - i ∧ Ext h h') (false, (0 : Int), ()) es.length rfl ⟨0, rfl, by omega, by omega, Ch.refl _ _⟩ ?_
  rintro ⟨b2, n3, ⟨⟩⟩ n h1 ⟨i, hi, hile, rfl, e1⟩
  simp only at hi
  subst hi
  dsimp only [flat, unc, unc1, List.nil_append, List.cons_append]
  refine cond_mk (fun g1 => ?_) (fun g1 => ?_)
  · have g1 := of_decide_eq_true g1
    have hilt : i < es.length := by omega
    have hilt2 : i < fs.length := by omega
    have hki : eKey es[i] = eKey fs[i] := by
      have h1 : (es.map eKey)[i]? = (fs.map eKey)[i]? := by rw [hk]
      rw [List.getElem?_map, List.getElem?_map, List.getElem?_eq_getElem hilt, List.getElem?_eq_getElem hilt2] at h1
      exact Option.some.inj h1
    obtain ⟨a, ha, hc⟩ := (v.keep e1).cells i hilt
    obtain ⟨a2, ha2, hc2⟩ := (w.keep e1).cells i hilt2
    have hin := (v.keep e1).inn es[i] (List.getElem_mem hilt)
    have hin2 := (w.keep e1).inn fs[i] (List.getElem_mem hilt2)
    have hti := ht es[i] (List.getElem_mem hilt)
    generalize es[i] = e at hki hc hin hti
    generalize fs[i] = f at hki hc2 hin2
    have hn : e.name = f.name := congrArg (·.1) hki
    have hx : e.x = f.x := congrArg (·.2) hki
    have hwi : IntKind.wrap .i64 ((i : Int) + 1) = ((i + 1 : Nat) : Int) := by rw [wrap_i64 (by omega) (by omega)]; omega
    refine need_of ⟨by omega, by omega⟩ (osome_mk ha ?_)
    rw [show Int.toNat (i : Int) = i by omega]
    refine loads_of (e.name, ()) ⟨hc.1, trivial⟩ ?_
    dsimp only [flat, unc, unc1, List.nil_append, List.cons_append]
    refine need_of ⟨by omega, by omega⟩ (osome_mk ha2 ?_)
    refine loads_of (f.name, ()) ⟨hc2.1, trivial⟩ ?_
    dsimp only [flat, unc, unc1, List.nil_append, List.cons_append]
    refine cond_f (by rw [eqBL, decide_eq_true hn]; rfl) ?_
    refine need_of ⟨by omega, by omega⟩ (osome_mk ha ?_)
    refine loads_of ((e.p, e.l, e.c), (e.x.num : Int), ()) ⟨by rw [add_zero']; exact hc.2.1, by rw [add_add]; exact hc.2.2.1, trivial⟩ ?_
    dsimp only [flat, unc, unc1, List.nil_append, List.cons_append]
    refine need_of ⟨by omega, by omega⟩ (osome_mk ha2 ?_)
    refine loads_of ((f.p, f.l, f.c), (f.x.num : Int), ()) ⟨by rw [add_zero']; exact hc2.2.1, by rw [add_add]; exact hc2.2.2.1, trivial⟩ ?_
    dsimp only [flat, unc, unc1, List.nil_append, List.cons_append]
    refine call_boolx (same48_hc hin hin2 hti) ?_
    intro h2 e2
    refine ⟨⟨cellsAt_keep e2 (by simp) _ _ ⟨hc2.1, trivial⟩, cellsAt_keep e2 (by simp) _ _ ⟨hc.1, trivial⟩, trivial⟩, ?_⟩
    refine cond_f (by rw [hx, linB_refl]; rfl) ?_
    exact again_mk (cs := biCs) (b2, ((i + 1 : Nat) : Int), ()) (es.length - (i + 1)) rfl (by omega) (by rw [hwi]; rfl) ⟨i + 1, rfl, by omega, rfl, e1.trans e2⟩
  · exact ⟨rfl, e1⟩
theorem termF (s : ByteArray) (n : Int) : Instr.fill (fun j => some (j * 2, 2)) ((Array.range (1 * 2)).map ((Value.agg #[.string ⟨#[]⟩, .int .u32 0]).cells[· % (Value.agg #[.string ⟨#[]⟩, .int .u32 0]).cells.size]!)) [(0, .agg #[.string s, .int .u32 n])] = some ([.string s, .int .u32 n] : List Value).toArray := by kernel_rfl
/-- The law's 'of'. -/
theorem of_hc (s0 s1 : ByteArray) (n c : Nat) (h : Hp) : HC Try.prog 19 #[.string s0, .string s1, .int .u32 (n : Int), .int .u32 (c : Int)] h fun w h' => (∃ p, w = .agg #[.string s0, .slice p 1 1, .int .u32 (c : Int)] ∧ SL h' h.size 40 2 p 1 1 ([(s1, n)].map encT)) ∧ Ext h h' := by
  refine hcr_of (args := [.string s0, .string s1, .int .u32 (n : Int), .int .u32 (c : Int)]) mixed Try.func19 (by kernel_rfl) (t_spandrellaw11_of_eq s0 s1 n c) ?_
  unfold t_spandrellaw11_of
  refine newB ?_
  intro h1 b1 e1 z1
  refine lit_of und67 termZ (by omega) (by omega) (termF s1 n) ?_
  intro h2 b2 e2 z2
  have b12 := b1.keep e2 (by simp)
  refine stores_of b12 rfl (by simp) ?_
  intro h3 b3 k3 z3
  have b3 : Box h3 h.size 38 [.string s0, .slice (some ⟨h1.size, 0, none⟩) 1 1, .int .u32 (c : Int)] := b3
  refine loads_box b3 (s0, (some ⟨h1.size, 0, none⟩, 1, 1), (c : Int), ()) rfl ?_
  dsimp only [flat, unc, unc1, List.nil_append, List.cons_append]
  have b23 := b2.keep k3 (by simp; omega)
  refine ⟨⟨some ⟨h1.size, 0, none⟩, rfl, rfl, by simp [encT], h1.size, [], [], rfl, by omega, by omega, by simpa [encT] using b23, by simp⟩, Ch.trans (e1.trans e2) k3 (fun j hj hl => by simp at hj; omega)⟩
/-- What 'right' asks. -/
structure RightE (es : List EqM) : Prop where
  len : es.length ≤ 60
  nodup : (namesE es).Nodup
  legal : ∀ e, e ∈ es → legalL e.name.data.toList = true
  rt : ∀ e, e ∈ es → rtR none e.x.terms = true
theorem right_hc {h : Hp} {p : Option Addr} {l c : Nat} {es : List EqM} (v : VwE h p l es) (hsz : ∀ e, e ∈ es → e.name.size ≤ maxLen) (ht : ∀ e, e ∈ es → e.x.terms.length ≤ 2 ^ 40 ∧ ∀ t, t ∈ e.x.terms → t.1.size ≤ maxLen) :
    HC Try.prog 7 #[.slice p l c] h fun r h' => (∃ b : Bool, r = .bool b ∧ (b = true → RightE es)) ∧ Ext h h' := by
  refine hcr_of (args := [.slice p l c]) mixed Try.func7 (by kernel_rfl) (t_spandrellaw11_right_eq p l c) ?_
  unfold t_spandrellaw11_right
  have hv := v.len
  refine cond_mk (fun g0 => ⟨⟨false, rfl, fun k => by cases k⟩, Ch.refl _ _⟩) (fun g0 => ?_)
  have g0 := of_decide_eq_false g0
  have hl60 : es.length ≤ 60 := by omega
  refine loop_of (cs := biCs) (fun x n h' => ∃ i : Nat, x.2.1 = (i : Int) ∧ i ≤ es.length ∧ n = es.length - i ∧ Ext h h' ∧ RightE (es.take i)) (false, (0 : Int), ()) es.length rfl ⟨0, rfl, by omega, by omega, Ch.refl _ _, ⟨by simp, by simp [namesE], by simp, by simp⟩⟩ ?_
  rintro ⟨b1, n2, ⟨⟩⟩ n h1 ⟨i, hi, hile, rfl, e1, hr⟩
  simp only at hi
  subst hi
  dsimp only [flat, unc, unc1, List.nil_append, List.cons_append]
  refine cond_mk (fun g1 => ?_) (fun g1 => ?_)
  · have g1 := of_decide_eq_true g1
    have hilt : i < es.length := by omega
    have htk : es.take (i + 1) = es.take i ++ [es[i]] := List.take_succ_eq_append_getElem hilt
    have hwi : IntKind.wrap .i64 ((i : Int) + 1) = ((i + 1 : Nat) : Int) := by rw [wrap_i64 (by omega) (by omega)]; omega
    obtain ⟨a, ha, hc⟩ := (v.keep e1).cells i hilt
    have hin := (v.keep e1).inn es[i] (List.getElem_mem hilt)
    have hti := ht es[i] (List.getElem_mem hilt)
    have hsi := hsz es[i] (List.getElem_mem hilt)
    have hcW : ∀ h', Ext h h' → cellsAt h' (a.add (i * 3)) 0 (eqV es[i]) := fun h' e' => by
      obtain ⟨a', ha', hc'⟩ := (v.keep e').cells i hilt
      rw [ha] at ha'
      have := Option.some.inj ha'
      subst this
      exact hc'
    generalize hee : es[i] = e at hc hin hti hsi htk hcW
    refine need_of ⟨by omega, by omega⟩ (osome_mk ha ?_)
    rw [show Int.toNat (i : Int) = i by omega]
    refine loads_of (e.name, ()) ⟨hc.1, trivial⟩ ?_
    dsimp only [flat, unc, unc1, List.nil_append, List.cons_append]
    refine call_bool (legal2_hc e.name _ (by unfold maxLen at hsi; omega)) ?_
    refine cond_mk (fun g2 => ⟨⟨false, rfl, fun k => by cases k⟩, e1⟩) (fun g2 => ?_)
    have g2 : legalL e.name.data.toList = true := by simpa using g2
    refine need_of ⟨by omega, by omega⟩ (osome_mk ha ?_)
    refine loads_of ((e.p, e.l, e.c), (e.x.num : Int), ()) ⟨by rw [add_zero']; exact hc.2.1, by rw [add_add]; exact hc.2.2.1, trivial⟩ ?_
    dsimp only [flat, unc, unc1, List.nil_append, List.cons_append]
    refine call_boolx (right50_hc hin (by omega) hti.2) ?_
    intro h2 e2
    refine cond_mk (fun g3 => ⟨⟨false, rfl, fun k => by cases k⟩, e1.trans e2⟩) (fun g3 => ?_)
    have g3 : rtR none e.x.terms = true := by simpa using g3
    refine loop_of (cs := biCs) (fun x n h' => ∃ j : Nat, x.2.1 = (j : Int) ∧ j ≤ i ∧ n = i - j ∧ h' = h2 ∧ ∀ k, (hk : k < j) → ∀ hl : k < es.length, es[k].name ≠ e.name) (b1, (0 : Int), ()) i rfl ⟨0, rfl, by omega, by omega, rfl, fun k hk => by omega⟩ ?_
    rintro ⟨b12, n13, ⟨⟩⟩ n h3 ⟨j, hj, hjle, rfl, rfl, hno⟩
    simp only at hj
    subst hj
    dsimp only [flat, unc, unc1, List.nil_append, List.cons_append]
    refine cond_mk (fun g4 => ?_) (fun g4 => ?_)
    · have g4 := of_decide_eq_true g4
      have hjlt : j < es.length := by omega
      obtain ⟨a2, ha2, hc2⟩ := (v.keep (e1.trans e2)).cells j hjlt
      have hwj : IntKind.wrap .i64 ((j : Int) + 1) = ((j + 1 : Nat) : Int) := by rw [wrap_i64 (by omega) (by omega)]; omega
      refine need_of ⟨by omega, by omega⟩ (osome_mk ha2 ?_)
      rw [show Int.toNat (j : Int) = j by omega]
      refine loads_of (es[j].name, ()) ⟨hc2.1, trivial⟩ ?_
      dsimp only [flat, unc, unc1, List.nil_append, List.cons_append]
      refine need_of ⟨by omega, by omega⟩ (osome_mk ha ?_)
      refine loads_of (e.name, ()) ⟨(hcW _ (e1.trans e2)).1, trivial⟩ ?_
      dsimp only [flat, unc, unc1, List.nil_append, List.cons_append]
      rw [eqBL]
      refine cond_mk (fun g5 => ⟨⟨false, rfl, fun k => by cases k⟩, e1.trans e2⟩) (fun g5 => ?_)
      have g5 := of_decide_eq_false g5
      refine again_mk (cs := biCs) (b12, ((j + 1 : Nat) : Int), ()) (i - (j + 1)) rfl (by omega) (by rw [hwj]; rfl) ⟨j + 1, rfl, by omega, rfl, rfl, fun k hk hl => ?_⟩
      by_cases hkj : k = j
      · subst hkj; exact g5
      · exact hno k (by omega) hl
    · have g4 := of_decide_eq_false g4
      refine again_mk (cs := biCs) (b12, ((i + 1 : Nat) : Int), ()) (es.length - (i + 1)) rfl (by omega) (by rw [hwi]; rfl) ⟨i + 1, rfl, by omega, rfl, e1.trans e2, ?_⟩
      rw [htk]
      refine ⟨by rw [List.length_append, List.length_take, List.length_singleton]; omega, ?_, fun d hd => ?_, fun d hd => ?_⟩
      · unfold namesE
        rw [List.map_append, List.nodup_append]
        refine ⟨hr.nodup, by simp, fun s hs t ht => ?_⟩
        have ht : t = e.name := by simpa using ht
        subst ht
        obtain ⟨d, hd, rfl⟩ := List.mem_map.1 hs
        obtain ⟨k, hk, rfl⟩ := List.getElem_of_mem hd
        rw [List.length_take] at hk
        rw [List.getElem_take]
        exact hno k (by omega) (by omega)
      · rcases List.mem_append.1 hd with h | h
        · exact hr.legal d h
        · rw [List.mem_singleton.1 h]; exact g2
      · rcases List.mem_append.1 hd with h | h
        · exact hr.rt d h
        · rw [List.mem_singleton.1 h]; exact g3
  · have g1 := of_decide_eq_false g1
    have hii : es.take i = es := List.take_of_length_le (by omega)
    rw [hii] at hr
    exact ⟨⟨true, rfl, fun _ => hr⟩, e1⟩
end Go.Sx

set_option linter.unusedVariables false
set_option maxRecDepth 100000
namespace Go.Sx
open Go.Proofs
theorem linE_of {es : List EqM} (hn : (namesE es).Nodup) {e : EqM} (he : e ∈ es) : linE es e.name = e.x := by
  obtain ⟨d, hd, h1, h2⟩ := linE_mem (show e.name ∈ namesE es from List.mem_map_of_mem he)
  rw [h2]
  have : ∀ l : List EqM, (l.map (·.name)).Nodup → d ∈ l → e ∈ l → d = e := by
    intro l
    induction l with
    | nil => intro _ h; simp at h
    | cons x l ih =>
      intro hn hd he
      rw [List.map_cons, List.nodup_cons] at hn
      rcases List.mem_cons.1 hd with a | a <;> rcases List.mem_cons.1 he with b | b
      · rw [a, b]
      · exact (hn.1 (by rw [← a, h1]; exact List.mem_map_of_mem b)).elim
      · exact (hn.1 (by rw [← b, ← h1]; exact List.mem_map_of_mem a)).elim
      · exact ih hn.2 a b
  rw [this es hn hd he]
theorem linE_out {es : List EqM} {s : ByteArray} (h : s ∉ namesE es) : (linE es s).terms = [] := by
  unfold linE
  rw [plc_none fun d hd e => h (by rw [← e]; exact List.mem_map_of_mem hd)]
  rfl
theorem edge_iff {es : List EqM} (hn : (namesE es).Nodup) {u v : ByteArray} : edgE es u v ↔ ∃ e, e ∈ es ∧ e.name = u ∧ (∃ t, t ∈ e.x.terms ∧ t.1 = v) ∧ v ∈ namesE es := by
  constructor
  · rintro ⟨h1, h2⟩
    obtain ⟨t, ht, rfl⟩ := mem_succL.1 h1
    have hu : u ∈ namesE es := by
      apply Classical.byContradiction
      intro hu
      rw [linE_out hu] at ht
      simp at ht
    obtain ⟨e, he, hen, hx⟩ := linE_mem hu
    rw [hx] at ht
    exact ⟨e, he, hen, ⟨t, ht, rfl⟩, (ownE_mem es _).1 h2⟩
  · rintro ⟨e, he, rfl, ⟨t, ht, rfl⟩, hv⟩
    exact ⟨mem_succL.2 ⟨t, by rw [linE_of hn he]; exact ht, rfl⟩, (ownE_mem es _).2 hv⟩
theorem noC_rank {E : ByteArray → ByteArray → Prop} (ρ : ByteArray → Nat) (h : ∀ u v, E u v → ρ v < ρ u) : ∀ v, ¬ OnC E v := by
  rintro v ⟨y, e, r⟩
  have key : ∀ a b, Rch E a b → ρ b ≤ ρ a := by
    intro a b r
    induction r with
    | refl => exact Nat.le_refl _
    | head e _ ih => have := h _ _ e; omega
  have := key _ _ r
  have := h _ _ e
  omega
theorem eqsSm_small {es : List EqM} (hn : (namesE es).Nodup) (hl : es.length ≤ 100) (hs : ∀ e, e ∈ es → e.name.size ≤ 100) (ht : ∀ e, e ∈ es → e.x.terms.length ≤ 100 ∧ ∀ t, t ∈ e.x.terms → t.1.size ≤ 100) : EqsSm es := by
  refine ⟨⟨hn, by omega, fun e he => by have := hs e he; unfold maxLen; omega, fun e he => by have := (ht e he).1; omega, fun e he t h => by have := (ht e he).2 t h; unfold maxLen; omega⟩, ?_⟩
  have : ∀ l : List EqM, (∀ e, e ∈ l → e.x.terms.length ≤ 100) → (l.flatMap (·.x.terms)).length ≤ l.length * 100 := by
    intro l
    induction l with
    | nil => intro _; simp
    | cons e l ih =>
      intro h
      rw [List.flatMap_cons, List.length_append, List.length_cons]
      have := h e (by simp)
      have := ih fun d hd => h d (List.mem_cons_of_mem _ hd)
      omega
  have := this es fun e he => (ht e he).1
  omega
/-- A list that lies in a box of its own. -/
theorem vwE_box {h : Hp} {g : Nat} {es : List EqM} (b : Box h g 38 (es.map eqV).flatten) (hi : ∀ e, e ∈ es → VwT h e.p e.l e.x.terms) (hl : es.length < 9223372036854775808) : VwE h (some ⟨g, 0, none⟩) es.length es := by
  have s : SL h 0 38 3 (some ⟨g, 0, none⟩) es.length es.length (es.map eqV) := ⟨by simp, fun x hx => by
    obtain ⟨e, _, rfl⟩ := List.mem_map.1 hx
    rfl, g, [], [], rfl, by omega, ⟨Nat.le_refl _, hl⟩, by simpa using b, by simp⟩
  exact ⟨rfl, fun i hi => by
    obtain ⟨a, ha, hc⟩ := s.cells (i := i) (by simpa using hi)
    rw [List.getElem_map] at hc
    exact ⟨a, ha, hc⟩, hi⟩
def eqA (e : EqM) : Value := .agg #[.string e.name, .slice e.p e.l e.c, .int .u32 (e.x.num : Int)]
theorem fill2 (s1 : ByteArray) (p1 : Option Addr) (l1 c1 : Nat) (n1 : Int) (s2 : ByteArray) (p2 : Option Addr) (l2 c2 : Nat) (n2 : Int) : Instr.fill (fun j => some (j * 3, 3)) ((Array.range (2 * 3)).map ((Value.agg #[.string ⟨#[]⟩, .slice none 0 0, .int .u32 0]).cells[· % (Value.agg #[.string ⟨#[]⟩, .slice none 0 0, .int .u32 0]).cells.size]!)) [(0, .agg #[.string s1, .slice p1 l1 c1, .int .u32 n1]), (1, .agg #[.string s2, .slice p2 l2 c2, .int .u32 n2])] = some ([.string s1, .slice p1 l1 c1, .int .u32 n1, .string s2, .slice p2 l2 c2, .int .u32 n2] : List Value).toArray := by kernel_rfl
theorem fill3 (s1 : ByteArray) (p1 : Option Addr) (l1 c1 : Nat) (n1 : Int) (s2 : ByteArray) (p2 : Option Addr) (l2 c2 : Nat) (n2 : Int) (s3 : ByteArray) (p3 : Option Addr) (l3 c3 : Nat) (n3 : Int) : Instr.fill (fun j => some (j * 3, 3)) ((Array.range (3 * 3)).map ((Value.agg #[.string ⟨#[]⟩, .slice none 0 0, .int .u32 0]).cells[· % (Value.agg #[.string ⟨#[]⟩, .slice none 0 0, .int .u32 0]).cells.size]!)) [(0, .agg #[.string s1, .slice p1 l1 c1, .int .u32 n1]), (1, .agg #[.string s2, .slice p2 l2 c2, .int .u32 n2]), (2, .agg #[.string s3, .slice p3 l3 c3, .int .u32 n3])] = some ([.string s1, .slice p1 l1 c1, .int .u32 n1, .string s2, .slice p2 l2 c2, .int .u32 n2, .string s3, .slice p3 l3 c3, .int .u32 n3] : List Value).toArray := by kernel_rfl
section
variable {L : Lp} {K : Value → Hp → Prop} {h : Hp}
theorem lit2_of {e1 e2 : EqM} {k : Option Addr → Nat → Nat → T} (v1 : VwT h e1.p e1.l e1.x.terms) (v2 : VwT h e2.p e2.l e2.x.terms) (hk : ∀ h', VwE h' (some ⟨h.size, 0, none⟩) 2 [e1, e2] → Ext h h' → h.size < h'.size → k (some ⟨h.size, 0, none⟩) 2 2 L K h') :
    T.sem Try.prog (Instr.buildSlice 22 2 #[(0, .agg #[.string e1.name, .slice e1.p e1.l e1.c, .int .u32 (e1.x.num : Int)]), (1, .agg #[.string e2.name, .slice e2.p e2.l e2.c, .int .u32 (e2.x.num : Int)])]) false [(false, [.slice 0])] k L K h := by
  refine lit_of und22 equZ (by omega) (by omega) (fill2 _ _ _ _ _ _ _ _ _ _) ?_
  intro h' b' e' z'
  exact hk h' (vwE_box (es := [e1, e2]) (by simpa [eqV] using b') (fun e he => by
    simp at he
    rcases he with rfl | rfl
    · exact v1.keep e' (by simp)
    · exact v2.keep e' (by simp)) (by simp)) e' (by omega)
theorem lit3_of {e1 e2 e3 : EqM} {k : Option Addr → Nat → Nat → T} (v1 : VwT h e1.p e1.l e1.x.terms) (v2 : VwT h e2.p e2.l e2.x.terms) (v3 : VwT h e3.p e3.l e3.x.terms) (hk : ∀ h', VwE h' (some ⟨h.size, 0, none⟩) 3 [e1, e2, e3] → Ext h h' → h.size < h'.size → k (some ⟨h.size, 0, none⟩) 3 3 L K h') :
    T.sem Try.prog (Instr.buildSlice 22 3 #[(0, .agg #[.string e1.name, .slice e1.p e1.l e1.c, .int .u32 (e1.x.num : Int)]), (1, .agg #[.string e2.name, .slice e2.p e2.l e2.c, .int .u32 (e2.x.num : Int)]), (2, .agg #[.string e3.name, .slice e3.p e3.l e3.c, .int .u32 (e3.x.num : Int)])]) false [(false, [.slice 0])] k L K h := by
  refine lit_of und22 equZ (by omega) (by omega) (fill3 _ _ _ _ _ _ _ _ _ _ _ _ _ _ _) ?_
  intro h' b' e' z'
  exact hk h' (vwE_box (es := [e1, e2, e3]) (by simpa [eqV] using b') (fun e he => by
    simp at he
    rcases he with rfl | rfl | rfl
    · exact v1.keep e' (by simp)
    · exact v2.keep e' (by simp)
    · exact v3.keep e' (by simp)) (by simp)) e' (by omega)
/-- A call of the law's 'of'. -/
theorem of_of {s0 s1 : ByteArray} {n c : Nat} {k : ByteArray → Option Addr → Nat → Nat → Int → T} (hk : ∀ (p : Option Addr) h', VwT h' p 1 [(s1, n)] → (∀ i, i ∈ blkOf p → i < h'.size) → Ext h h' → k s0 p 1 1 (c : Int) L K h') :
    T.call Try.prog 19 [.string s0, .string s1, .int .u32 (n : Int), .int .u32 (c : Int)] false [(true, [.string, .slice 40, .int .u32])] k L K h := by
  refine call_of (of_hc s0 s1 n c h) ?_
  rintro _ h' ⟨⟨p, rfl, s⟩, e⟩
  exact ⟨(s0, (p, 1, 1), (c : Int), ()), rfl, hk p h' (vwT_sl s) (fun i hi => (s.blk hi).2) e⟩
end
abbrev bA : ByteArray := ⟨#[97]⟩
abbrev bB : ByteArray := ⟨#[98]⟩
abbrev bC : ByteArray := ⟨#[99]⟩
abbrev bX : ByteArray := ⟨#[120]⟩
theorem nin2 {a b c : ByteArray} (h1 : a ≠ b) (h2 : a ≠ c) : a ∉ [b, c] := by simp [h1, h2]
theorem szA : bA.size ≤ 100 := by decide
theorem nf_one {s : ByteArray} {n : Nat} (h : n ≠ 0 ∧ n < 4294967296) : Nf [(s, n)] := ⟨List.pairwise_singleton _ _, fun p hp => by rw [List.mem_singleton.1 hp]; exact h⟩
def mkQ (s0 : ByteArray) (p : Option Addr) (s1 : ByteArray) (n c : Nat) : EqM := ⟨s0, p, 1, 1, ⟨[(s1, n)], c⟩⟩
section
variable {p q r : Option Addr}
/-- a = 2 b + 1, b = c - 3. -/
theorem run1 : EqsSm [mkQ bA p bB 2 1, mkQ bB q bC 1 4294967293] ∧ (∀ v, ¬ OnC (edgE [mkQ bA p bB 2 1, mkQ bB q bC 1 4294967293]) v) ∧
    [mkQ bA p bB 2 1, mkQ bB q bC 1 4294967293].map (fun e => (e.name, solE [mkQ bA p bB 2 1, mkQ bB q bC 1 4294967293] e.name)) = [(bA, ⟨[(bC, 2)], 4294967291⟩), (bB, ⟨[(bC, 1)], 4294967293⟩)] := by
  generalize hes : [mkQ bA p bB 2 1, mkQ bB q bC 1 4294967293] = es
  have hnames : namesE es = [bA, bB] := by subst hes; rfl
  have hn : (namesE es).Nodup := by rw [hnames]; decide
  have hmA : mkQ bA p bB 2 1 ∈ es := by subst hes; simp
  have hmB : mkQ bB q bC 1 4294967293 ∈ es := by subst hes; simp
  have hall : ∀ e, e ∈ es → e = mkQ bA p bB 2 1 ∨ e = mkQ bB q bC 1 4294967293 := by subst hes; intro e he; simpa using he
  have eo : EqsSm es := by
    refine eqsSm_small hn (by subst hes; simp) (fun e he => ?_) (fun e he => ?_)
    · rcases hall e he with rfl | rfl <;> exact szA
    · rcases hall e he with rfl | rfl
      · exact ⟨by simp [mkQ], fun t ht => by have : t = (bB, 2) := by simpa [mkQ] using ht
                                             subst this; decide⟩
      · exact ⟨by simp [mkQ], fun t ht => by have : t = (bC, 1) := by simpa [mkQ] using ht
                                             subst this; decide⟩
  have hc : ∀ v, ¬ OnC (edgE es) v := by
    refine noC_rank (fun s => if s = bB then 0 else 1) fun u v he => ?_
    obtain ⟨e, h1, rfl, ⟨t, ht, rfl⟩, h3⟩ := (edge_iff hn).1 he
    rcases hall e h1 with rfl | rfl
    · have : t = (bB, 2) := by simpa [mkQ] using ht
      subst this
      show (if bB = bB then 0 else 1) < (if bA = bB then 0 else 1)
      decide
    · have : t = (bC, 1) := by simpa [mkQ] using ht
      subst this
      rw [hnames] at h3
      exact absurd h3 (nin2 (by decide) (by decide))
  have lA : linE es bA = ⟨[(bB, 2)], 1⟩ := linE_of hn hmA
  have lB : linE es bB = ⟨[(bC, 1)], 4294967293⟩ := linE_of hn hmB
  have oB : ownE es bB = true := (ownE_mem es _).2 (by rw [hnames]; simp)
  have oC : ¬ ownE es bC = true := fun h => absurd ((ownE_mem es _).1 h) (by rw [hnames]; exact nin2 (by decide) (by decide))
  have sB : solE es bB = ⟨[(bC, 1)], 4294967293⟩ := by
    show sol _ _ _ _ = _
    rw [sol_eq (ownE_mem es) hc (by rw [hnames]; simp), lB]
    refine putS_none (nf_one (by decide)) fun t ht => ?_
    have : t = (bC, 1) := by simpa using ht
    subst this
    exact if_neg oC
  have sA : solE es bA = ⟨[(bC, 2)], 4294967291⟩ := by
    show sol _ _ _ _ = _
    rw [sol_eq (ownE_mem es) hc (by rw [hnames]; simp), lA]
    have ho : solO (ownE es) (linE es) (namesE es) bB = some ⟨[(bC, 1)], 4294967293⟩ := by
      unfold solO
      rw [if_pos oB]
      exact congrArg some sB
    have h1 : ([(bB, 2)] : Tms).flatMap (xpd (solO (ownE es) (linE es) (namesE es))) = [(bC, 2)] := by
      rw [List.flatMap_cons, List.flatMap_nil, List.append_nil]
      unfold xpd
      rw [ho]
      rfl
    have h2 : ([(bB, 2)] : Tms).foldl (xnum (solO (ownE es) (linE es) (namesE es))) 1 = 4294967291 := by
      rw [List.foldl_cons, List.foldl_nil]
      unfold xnum
      rw [ho]
      show (1 + 2 * 4294967293 % 4294967296) % 4294967296 = 4294967291
      decide
    unfold putS
    rw [h1, h2, nrm_self (nf_one (by decide))]
  refine ⟨eo, hc, ?_⟩
  subst hes
  show [(bA, solE _ bA), (bB, solE _ bB)] = _
  rw [sA, sB]
theorem ix_of {es : List EqM} {w : Value} {h h' : Hp} (hs : SolveR es h w h') {k : Nat} (hk : k < es.length) (h1 : OnC (edgE es) es[k].name) (h0 : ∀ j, (hj : j < k) → ¬ OnC (edgE es) es[j].name) : w = .tuple #[.slice none 0 0, .int .i64 (k : Int), .int .i64 24] := by
  rcases hs with ⟨i, hi, ho, hno, rfl⟩ | ⟨hc, _⟩
  · have : i = k := by
      rcases Nat.lt_trichotomy i k with h | h | h
      · exact (h0 i h ho).elim
      · exact h
      · exact (hno k h h1).elim
    rw [this]
  · exact (hc _ h1).elim
/-- x = a, then a and b by one another. -/
theorem run2 (es : List EqM) (hes : (∃ p q r, es = [mkQ bX p bA 1 0, mkQ bA q bB 1 0, mkQ bB r bA 1 0]) ∨ ∃ p q r, es = [mkQ bX p bA 1 0, mkQ bB q bA 1 0, mkQ bA r bB 1 0]) : EqsSm es ∧ ∀ s, OnC (edgE es) s ↔ s = bA ∨ s = bB := by
  have hmem : ∃ p q r, mkQ bX p bA 1 0 ∈ es ∧ mkQ bA q bB 1 0 ∈ es ∧ mkQ bB r bA 1 0 ∈ es ∧ ∀ e, e ∈ es → e = mkQ bX p bA 1 0 ∨ e = mkQ bA q bB 1 0 ∨ e = mkQ bB r bA 1 0 := by
    rcases hes with ⟨p, q, r, rfl⟩ | ⟨p, q, r, rfl⟩
    · exact ⟨p, q, r, by simp, by simp, by simp, fun e he => by simpa using he⟩
    · refine ⟨p, r, q, by simp, by simp, by simp, fun e he => ?_⟩
      have : e = mkQ bX p bA 1 0 ∨ e = mkQ bB q bA 1 0 ∨ e = mkQ bA r bB 1 0 := by simpa using he
      rcases this with h | h | h
      · exact .inl h
      · exact .inr (.inr h)
      · exact .inr (.inl h)
  have hnm : namesE es = [bX, bA, bB] ∨ namesE es = [bX, bB, bA] := by
    rcases hes with ⟨p, q, r, rfl⟩ | ⟨p, q, r, rfl⟩
    · exact .inl rfl
    · exact .inr rfl
  have hn : (namesE es).Nodup := by rcases hnm with h | h <;> rw [h] <;> decide
  have hl : es.length = 3 := by rcases hes with ⟨p, q, r, rfl⟩ | ⟨p, q, r, rfl⟩ <;> rfl
  have nA : bA ∈ namesE es := by rcases hnm with h | h <;> rw [h] <;> simp
  have nB : bB ∈ namesE es := by rcases hnm with h | h <;> rw [h] <;> simp
  clear hnm hes
  obtain ⟨p, q, r, mX, mA, mB, hall⟩ := hmem
  refine ⟨eqsSm_small hn (by omega) (fun e he => ?_) (fun e he => ?_), fun s => ⟨?_, ?_⟩⟩
  · rcases hall e he with rfl | rfl | rfl <;> exact szA
  · rcases hall e he with rfl | rfl | rfl
    · exact ⟨by simp [mkQ], fun t ht => by have : t = (bA, 1) := by simpa [mkQ] using ht
                                           subst this; decide⟩
    · exact ⟨by simp [mkQ], fun t ht => by have : t = (bB, 1) := by simpa [mkQ] using ht
                                           subst this; decide⟩
    · exact ⟨by simp [mkQ], fun t ht => by have : t = (bA, 1) := by simpa [mkQ] using ht
                                           subst this; decide⟩
  · rintro ⟨y, e, rr⟩
    have hin : ∀ u v, edgE es u v → v = bA ∨ v = bB := by
      intro u v he
      obtain ⟨e, h1, rfl, ⟨t, ht, rfl⟩, h3⟩ := (edge_iff hn).1 he
      rcases hall e h1 with rfl | rfl | rfl
      · have : t = (bA, 1) := by simpa [mkQ] using ht
        subst this; exact .inl rfl
      · have : t = (bB, 1) := by simpa [mkQ] using ht
        subst this; exact .inr rfl
      · have : t = (bA, 1) := by simpa [mkQ] using ht
        subst this; exact .inl rfl
    have key : ∀ a b, Rch (edgE es) a b → (a = bA ∨ a = bB) → b = bA ∨ b = bB := by
      intro a b r
      induction r with
      | refl => exact id
      | head e _ ih => exact fun _ => ih (hin _ _ e)
    exact key _ _ rr (hin _ _ e)
  · have eAB : edgE es bA bB := (edge_iff hn).2 ⟨_, mA, rfl, ⟨(bB, 1), by simp [mkQ], rfl⟩, nB⟩
    have eBA : edgE es bB bA := (edge_iff hn).2 ⟨_, mB, rfl, ⟨(bA, 1), by simp [mkQ], rfl⟩, nA⟩
    rintro (rfl | rfl)
    · exact ⟨bB, eAB, .one eBA⟩
    · exact ⟨bA, eBA, .one eAB⟩
end
theorem known_hc (h : Hp) : HC Try.prog 8 #[] h fun w h' => w = .bool true ∧ Ext h h' := by
  refine hcr_of (args := []) mixed Try.func8 (by kernel_rfl) t_spandrellaw11_known_eq ?_
  unfold t_spandrellaw11_known
  refine of_of (n := 2) (c := 1) ?_
  intro p2 h1 v1 k1 e1
  refine of_of (n := 1) (c := 4294967293) ?_
  intro p7 h2 v2 k2 e2
  refine lit2_of (e1 := mkQ bA p2 bB 2 1) (e2 := mkQ bB p7 bC 1 4294967293) (v1.keep e2 (by simp)) v2 ?_
  intro h3 v3 e3 z3
  obtain ⟨eo, hc, hsol⟩ := run1 (p := p2) (q := p7)
  have hz2 := e2.size
  have hz3 := e3.size
  refine call_of (solveAll_hc (c := 2) v3 eo (fun i hi => by simp [blkOf] at hi; omega) (by simp)) ?_
  rintro _ h4 ⟨hs, e4⟩
  rcases hs with ⟨i, hi, ho, _⟩ | ⟨_, p', l', c', ms, rfl, own, hms⟩
  · exact (hc _ ho).elim
  rw [hsol] at hms
  refine ⟨((p', l', c'), (0 : Int), (0 : Int), ()), rfl, ?_⟩
  dsimp only [flat, unc, unc1, List.nil_append, List.cons_append]
  refine of_of (n := 1) (c := 0) ?_
  intro p20 h5 v5 k5 e5
  refine of_of (n := 1) (c := 0) ?_
  intro p25 h6 v6 k6 e6
  refine of_of (n := 1) (c := 0) ?_
  intro p30 h7 v7 k7 e7
  refine lit3_of (e1 := mkQ bX p20 bA 1 0) (e2 := mkQ bA p25 bB 1 0) (e3 := mkQ bB p30 bA 1 0) ((v5.keep e6 (by simp)).keep e7 (by simp)) (v6.keep e7 (by simp)) v7 ?_
  intro h8 v8 e8 z8
  have hz6 := e6.size
  have hz7 := e7.size
  have hz8 := e8.size
  obtain ⟨eo2, hoc⟩ := run2 [mkQ bX p20 bA 1 0, mkQ bA p25 bB 1 0, mkQ bB p30 bA 1 0] (.inl ⟨_, _, _, rfl⟩)
  refine call_of (solveAll_hc (c := 3) v8 eo2 (fun i hi => by simp [blkOf] at hi; omega) (by simp)) ?_
  rintro w9 h9 ⟨hs9, e9⟩
  have hw9 := ix_of hs9 (k := 1) (by simp) ((hoc _).2 (.inl rfl)) (fun j hj ho => by
    have : j = 0 := by omega
    subst this
    have ho : bX = bA ∨ bX = bB := (hoc _).1 ho
    rcases ho with h | h <;> exact absurd h (by decide))
  subst hw9
  refine ⟨((none, 0, 0), (1 : Int), (24 : Int), ()), rfl, ?_⟩
  dsimp only [flat, unc, unc1, List.nil_append, List.cons_append]
  refine cond_t rfl ?_
  refine of_of (n := 2) (c := 4294967291) ?_
  intro p43 h10 v10 k10 e10
  refine of_of (n := 1) (c := 4294967293) ?_
  intro p48 h11 v11 k11 e11
  refine lit2_of (e1 := mkQ bA p43 bC 2 4294967291) (e2 := mkQ bB p48 bC 1 4294967293) (v10.keep e11 (by simp)) v11 ?_
  intro h12 v12 e12 z12
  have e412 : Ext h4 h12 := ((((((((e5.trans e6).trans e7).trans e8).trans e9).trans e10).trans e11).trans e12))
  have hml : ms.length = 2 := by have := congrArg List.length hms; simpa using this
  refine call_boolx (sameEqus_hc (c := c') (d := 2) ((vwE_own own).keep e412) v12 (by
    show ms.map (fun m => (m.name, m.x)) = _
    rw [hms]; rfl) (by omega) (fun e he => ?_)) ?_
  · have : (e.name, e.x) ∈ ms.map (fun m => (m.name, m.x)) := List.mem_map_of_mem (f := fun m : EqM => (m.name, m.x)) he
    rw [hms] at this
    simp at this
    rcases this with ⟨_, h⟩ | ⟨_, h⟩ <;> rw [h] <;> decide
  · intro h13 e13
    refine cond_t rfl (cond_t rfl ?_)
    exact ⟨rfl, ((((e1.trans e2).trans e3).trans e4).trans e412).trans e13⟩
end Go.Sx

set_option linter.unusedVariables false
set_option maxRecDepth 100000
namespace Go.Sx
open Go.Proofs
theorem sameS_hc {h : Hp} {b b' : Nat} {p q : Option Addr} {l m c d : Nat} {xs ys : List ByteArray} (s : SL h b 9 1 p l c (xs.map enS)) (t : SL h b' 9 1 q m d (ys.map enS)) (he : xs = ys) (hl : l ≤ 2 ^ 40) :
    HCp Try.prog 21 [.slice p l c, .slice q m d] h (.bool true) := by
  refine hcp_of mixed Try.func21 (by kernel_rfl) (t_spandrelbook_Same_string__eq p l c q m d) ?_
  unfold t_spandrelbook_Same_string_
  subst he
  have h1 : l = xs.length := by rw [s.1, List.length_map]
  have h2 : m = xs.length := by rw [t.1, List.length_map]
  refine cond_f (by have : (l : Int) = (m : Int) := by omega
                    simp [this]) ?_
  refine loop_of (cs := biCs) (fun x n h' => h' = h ∧ ∃ i : Nat, x.2.1 = (i : Int) ∧ i ≤ xs.length ∧ n = xs.length - i) (false, (0 : Int), ()) xs.length rfl ⟨rfl, 0, rfl, by omega, by omega⟩ ?_
  rintro ⟨b2, n3, ⟨⟩⟩ n h3 ⟨rfl, i, hi, hile, rfl⟩
  simp only at hi
  subst hi
  dsimp only [flat, unc, unc1, List.nil_append, List.cons_append]
  refine cond_mk (fun g1 => ?_) (fun g1 => ⟨rfl, rfl⟩)
  have g1 := of_decide_eq_true g1
  have hilt : i < xs.length := by omega
  obtain ⟨a, ha, hc⟩ := s.cells (i := i) (by simpa using hilt)
  obtain ⟨a2, ha2, hc2⟩ := t.cells (i := i) (by simpa using hilt)
  rw [List.getElem_map] at hc hc2
  refine need_of ⟨by omega, by omega⟩ (osome_mk ha ?_)
  rw [show Int.toNat (i : Int) = i by omega]
  refine loads_of (xs[i], ()) hc ?_
  dsimp only [flat, unc, unc1, List.nil_append, List.cons_append]
  refine need_of ⟨by omega, by omega⟩ (osome_mk ha2 ?_)
  refine loads_of (xs[i], ()) hc2 ?_
  dsimp only [flat, unc, unc1, List.nil_append, List.cons_append]
  refine cond_f (by rw [eqBL]; simp) ?_
  have hwi : IntKind.wrap .i64 ((i : Int) + 1) = ((i + 1 : Nat) : Int) := by rw [wrap_i64 (by omega) (by omega)]; omega
  exact again_mk (cs := biCs) (b2, ((i + 1 : Nat) : Int), ()) (xs.length - (i + 1)) rfl (by omega) (by rw [hwi]; rfl) ⟨rfl, i + 1, rfl, by omega, rfl⟩
theorem nilE (h : Hp) : VwE h none 0 [] := ⟨rfl, fun i hi => by simp at hi, fun e he => by simp at he⟩
theorem nilOk : EqsSm [] := eqsSm_small (by simp [namesE]) (by simp) (by simp) (by simp)
theorem nilNo : ∀ v, ¬ OnC (edgE []) v := by
  intro v h
  have := (ownE_mem [] v).1 h.isOwn
  simp [namesE] at this
/-- x = a, a = a. -/
theorem run3 (p q : Option Addr) : EqsSm [mkQ bX p bA 1 0, mkQ bA q bA 1 0] ∧ OnC (edgE [mkQ bX p bA 1 0, mkQ bA q bA 1 0]) bA ∧ ¬ OnC (edgE [mkQ bX p bA 1 0, mkQ bA q bA 1 0]) bX := by
  generalize hes : [mkQ bX p bA 1 0, mkQ bA q bA 1 0] = es
  have hnames : namesE es = [bX, bA] := by subst hes; rfl
  have hn : (namesE es).Nodup := by rw [hnames]; decide
  have hmA : mkQ bA q bA 1 0 ∈ es := by subst hes; simp
  have hall : ∀ e, e ∈ es → e = mkQ bX p bA 1 0 ∨ e = mkQ bA q bA 1 0 := by subst hes; intro e he; simpa using he
  refine ⟨eqsSm_small hn (by subst hes; simp) (fun e he => ?_) (fun e he => ?_), ?_, ?_⟩
  · rcases hall e he with rfl | rfl <;> exact szA
  · rcases hall e he with rfl | rfl
    · exact ⟨by simp [mkQ], fun t ht => by have : t = (bA, 1) := by simpa [mkQ] using ht
                                           subst this; decide⟩
    · exact ⟨by simp [mkQ], fun t ht => by have : t = (bA, 1) := by simpa [mkQ] using ht
                                           subst this; decide⟩
  · have e : edgE es bA bA := (edge_iff hn).2 ⟨_, hmA, rfl, ⟨(bA, 1), by simp [mkQ], rfl⟩, by rw [hnames]; simp⟩
    exact ⟨bA, e, .refl _⟩
  · have hin : ∀ u v, edgE es u v → v = bA := by
      intro u v he
      obtain ⟨e, h1, rfl, ⟨t, ht, rfl⟩, h3⟩ := (edge_iff hn).1 he
      rcases hall e h1 with rfl | rfl
      · have : t = (bA, 1) := by simpa [mkQ] using ht
        subst this; rfl
      · have : t = (bA, 1) := by simpa [mkQ] using ht
        subst this; rfl
    rintro ⟨y, e, r⟩
    have key : ∀ a b, Rch (edgE es) a b → a = bA → b = bA := by
      intro a b r
      induction r with
      | refl => exact id
      | head e _ ih => exact fun _ => ih (hin _ _ e)
    exact absurd (key _ _ r (hin _ _ e)) (by decide)
theorem fillS2 (s1 s2 : ByteArray) : Instr.fill (fun j => some (j * 1, 1)) ((Array.range (2 * 1)).map ((Value.string ⟨#[]⟩).cells[· % (Value.string ⟨#[]⟩).cells.size]!)) [(0, .string s1), (1, .string s2)] = some ([.string s1, .string s2] : List Value).toArray := by kernel_rfl
theorem equNumbers_hc (h : Hp) : HC Try.prog 5 #[] h fun w h' => w = .bool true ∧ Ext h h' := by
  refine hcr_of (args := []) mixed Try.func5 (by kernel_rfl) t_spandrellaw11_EquNumbers_eq ?_
  unfold t_spandrellaw11_EquNumbers
  refine call_of (solveAll_hc (c := 0) (nilE h) nilOk (fun i hi => by simp [blkOf] at hi) (by simp)) ?_
  rintro _ h1 ⟨hs, e1⟩
  rcases hs with ⟨i, hi, _⟩ | ⟨_, p1, l2, c3, ms, rfl, own, hms⟩
  · simp at hi
  have hl2 : l2 = 0 := by
    have : ms = [] := by simpa using hms
    subst this
    exact own.out.1
  subst hl2
  refine ⟨((p1, 0, c3), (0 : Int), (0 : Int), ()), rfl, ?_⟩
  dsimp only [flat, unc, unc1, List.nil_append, List.cons_append]
  refine of_of (n := 1) (c := 0) ?_
  intro p7 h2 v2 k2 e2
  refine newB ?_
  intro h3 b3 e3 z3
  refine stores_of b3 rfl (by simp) ?_
  intro h4 b4 k4 z4
  have b4 : Box h4 h2.size 36 [.slice p7 1 1, .int .u32 (0 : Int)] := b4
  have e24 : Ext h2 h4 := Ch.trans e3 k4 (fun j hj hl => by simp at hj; omega)
  have v4 := v2.keep e24 (by simp)
  have hz24 := e24.size
  refine of_of (n := 1) (c := 0) ?_
  intro p13 h5 v5 k5 e5
  refine of_of (n := 1) (c := 0) ?_
  intro p18 h6 v6 k6 e6
  refine of_of (n := 1) (c := 0) ?_
  intro p23 h7 v7 k7 e7
  refine lit3_of (e1 := mkQ bX p13 bA 1 0) (e2 := mkQ bB p18 bA 1 0) (e3 := mkQ bA p23 bB 1 0) ((v5.keep e6 (by simp)).keep e7 (by simp)) (v6.keep e7 (by simp)) v7 ?_
  intro h8 v8 e8 z8
  have hz5 := e5.size
  have hz6 := e6.size
  have hz7 := e7.size
  have hz8 := e8.size
  obtain ⟨eo8, hoc⟩ := run2 [mkQ bX p13 bA 1 0, mkQ bB p18 bA 1 0, mkQ bA p23 bB 1 0] (.inr ⟨_, _, _, rfl⟩)
  refine call_of (cycle_hc (c := 3) v8 eo8.toEqsOk (fun i hi => by simp [blkOf] at hi; omega)) ?_
  rintro _ h9 ⟨⟨p30, l31, c32, ks, rfl, sk, hks, hsort⟩, e9⟩
  refine ⟨((p30, l31, c32), ()), rfl, ?_⟩
  dsimp only [flat, unc, unc1, List.nil_append, List.cons_append]
  have hkk : ks = [bA, bB] := by
    refine ltN_uniq hsort ?_ fun s => ?_
    · exact List.pairwise_cons.2 ⟨fun b hb => by rw [List.mem_singleton.1 hb]; decide, List.pairwise_singleton _ _⟩
    · rw [hks, hoc]; simp
  have hl31 : l31 = 2 := by rw [sk.1, List.length_map, hkk]; rfl
  refine of_of (n := 1) (c := 0) ?_
  intro p34 h10 v10 k10 e10
  refine of_of (n := 1) (c := 0) ?_
  intro p39 h11 v11 k11 e11
  refine lit2_of (e1 := mkQ bX p34 bA 1 0) (e2 := mkQ bA p39 bA 1 0) (v10.keep e11 (by simp)) v11 ?_
  intro h12 v12 e12 z12
  have hz11 := e11.size
  have hz12 := e12.size
  obtain ⟨eo12, oA, nX⟩ := run3 p34 p39
  refine call_of (solveAll_hc (c := 2) v12 eo12 (fun i hi => by simp [blkOf] at hi; omega) (by simp)) ?_
  rintro w13 h13 ⟨hs13, e13⟩
  have hw13 := ix_of hs13 (k := 1) (by simp) oA (fun j hj => by
    have : j = 0 := by omega
    subst this
    exact nX)
  subst hw13
  refine ⟨((none, 0, 0), (1 : Int), (24 : Int), ()), rfl, ?_⟩
  dsimp only [flat, unc, unc1, List.nil_append, List.cons_append]
  refine cond_t rfl (cond_t rfl ?_)
  have e413 : Ext h4 h13 := ((((((((e5.trans e6).trans e7).trans e8).trans e9).trans e10).trans e11).trans e12).trans e13)
  have b13 := b4.keep e413 (by simp)
  have v13 := v4.keep e413 (by simp)
  have hz413 := e413.size
  refine loads_box b13 ((p7, 1, 1), (0 : Int), ()) rfl ?_
  dsimp only [flat, unc, unc1, List.nil_append, List.cons_append]
  refine loads_box b13 ((p7, 1, 1), (0 : Int), ()) rfl ?_
  dsimp only [flat, unc, unc1, List.nil_append, List.cons_append]
  have hst : ∀ h', Box h' h2.size 36 [.slice p7 1 1, .int .u32 (0 : Int)] → cellsAt h' ⟨h2.size, 0, none⟩ 0 [.slice p7 1 1, .int .u32 (0 : Int)] := fun h' b => b.cells _ rfl
  have hxs : ∀ t, t ∈ ([(bB, 1)] : Tms) → t.1.size ≤ maxLen := by
    intro t ht
    have : t = (bB, 1) := by simpa using ht
    subst this
    exact Nat.le_trans szA (by unfold maxLen; omega)
  refine call_of (put_hc (x := ⟨[(bB, 1)], 0⟩) (c := 1) (d := 0) v13 (nilE h13) nilOk.toEqsOk (by simp) (by simp) (by simp) (by simp) hxs) ?_
  rintro _ h14 ⟨⟨p59, l60, c61, rfl, s14⟩, e14⟩
  have hput : linAdd (putS (linO []) ⟨[(bB, 1)], 0⟩) linZ = ⟨[(bB, 1)], 0⟩ := by
    rw [putS_none (nf_one (by decide)) (fun t ht => rfl), linAdd_zero (nf_one (by decide)) (by decide)]
  rw [hput] at s14
  refine ⟨((p59, l60, c61), (0 : Int), ()), by rw [hput]; rfl, ?_⟩
  dsimp only [flat, unc, unc1, List.nil_append, List.cons_append]
  have b14 := b13.keep e14 (by simp)
  refine ⟨⟨hst _ b14, trivial⟩, ?_⟩
  refine call_boolx (same48_hc (x := ⟨[(bB, 1)], 0⟩) (y := ⟨[(bB, 1)], 0⟩) (c := c61) (d := 1) (vwT_sl s14) (v13.keep e14 (by simp)) (by simp)) ?_
  intro h15 e15
  have b15 := b14.keep e15 (by simp)
  refine ⟨⟨hst _ b15, trivial⟩, ?_⟩
  refine cond_t (linB_refl _) ?_
  refine lit_of und29 strZS (by omega) (by omega) (fillS2 bA bB) ?_
  intro h16 b16 e16 z16
  have b1516 := b15.keep e16 (by simp)
  refine ⟨⟨hst _ b1516, hst _ b1516, trivial⟩, ?_⟩
  have sl16 : SL h16 h15.size 9 1 (some ⟨h15.size, 0, none⟩) 2 2 ([bA, bB].map enS) := ⟨rfl, by simp, h15.size, [], [], rfl, Nat.le_refl _, by omega, by simpa using b16, by simp⟩
  have e916 : Ext h9 h16 := (((((((e10.trans e11).trans e12).trans e13).trans e14).trans e15).trans e16))
  refine call_bool (sameS_hc (sk.keep e916 (by simp)) sl16 hkk (by omega)) ?_
  refine ⟨⟨hst _ b1516, hst _ b1516, trivial⟩, ?_⟩
  refine cond_t rfl (cond_t rfl (cond_t rfl ?_))
  refine call_boolx (known_hc h16) ?_
  intro h17 e17
  have b17 := b1516.keep e17 (by simp)
  refine ⟨⟨hst _ b17, hst _ b17, trivial⟩, ?_⟩
  exact ⟨rfl, (((((e1.trans e2).trans e24).trans e413).trans e14).trans e15).trans (e16.trans e17)⟩
end Go.Sx

set_option linter.unusedVariables false
set_option maxRecDepth 100000
namespace Go.Sx
open Go.Proofs Go.Proofs.Ytpbjlnlekobodaa
open Go.ChangeShapes Go.WideShapes Go.ChangeAt Go.WideMaps Go.WideElems Go.RowKit
theorem equS : ((Try.prog.underlying 38).bind fun d => match d with | .struct fs => some (fs.toList.map fun f => (f.type, f.offset)) | _ => none) = some [(9, 0), (36, 1)] := by kernel_rfl
theorem c38 : Try.prog.cellsOf 38 = 3 := by kernel_rfl
theorem c36 : Try.prog.cellsOf 36 = 2 := by kernel_rfl
theorem cells3 {W : World} {base : Nat} {a : Addr} {cs : List Value} (h : W.cells? base a 3 = some cs) : ∃ v u z, cs = [v, u, z] ∧ hcell W.heap (a.add 0) = some v ∧ hcell W.heap (a.add 1) = some u ∧ hcell W.heap (a.add 2) = some z := by
  unfold World.cells? at h
  split at h
  · rw [show List.range 3 = [0, 1, 2] from rfl] at h
    simp only [List.mapM_cons, List.mapM_nil, cell_heap] at h
    cases h0 : hcell W.heap (a.add 0) with
    | none => simp [h0] at h
    | some v =>
      cases h1 : hcell W.heap (a.add 1) with
      | none => simp [h0, h1] at h
      | some u =>
        cases h2 : hcell W.heap (a.add 2) with
        | none => simp [h0, h1, h2] at h
        | some z =>
          simp [h0, h1, h2] at h
          exact ⟨v, u, z, h.symm, rfl, rfl, rfl⟩
  · cases h
/-- A Lin that lies in cells. -/
theorem open_lin_cells {H : Type} {enc : TypeId × Value → H} {W : World} {base n : Nat} {sp : Nat → Bool} {held : Bool} {cs : List Value} {y : DataW H × List MemPlace} (h : DataW.trod enc Try.prog W base sp held n 36 cs = some y) :
    ∃ (p : Option Addr) (l c : Nat) (x : Lin), cs = [.slice p l c, .int .u32 (x.num : Int)] ∧ VwT W.heap p l x.terms ∧ (∀ t, t ∈ x.terms → t.1.size ≤ maxLen ∧ t.2 < 4294967296) ∧ x.num < 4294967296 ∧ 3 * x.terms.length ≤ Rows.uptoBulk y.1 := by
  obtain ⟨f0, f1, hu, a0, b0', a1, b1⟩ := str2 linS
  obtain ⟨y0, y1, m, hx, hl, h0, h1⟩ := trod_struct2 hu h
  rw [a0, b0', c67] at h0
  rw [a1, b1, c33] at h1
  rw [c69] at hl
  match cs, hl with
  | [u, w], _ =>
    simp only [List.drop_zero, List.take_succ_cons, List.take_zero] at h0
    simp only [List.drop_succ_cons, List.drop_zero, List.take_succ_cons, List.take_zero] at h1
    obtain ⟨k, e1, rfl, hk⟩ := DataW.trod_int u33 h1
    have hb := bounds_u32 hk
    cases e1
    have hd : y.1 = .agg [y0.1, .lit (.int .u32 k)] := by
      have := congrArg Prod.fst hx
      simpa using this
    have hkk : ((k.toNat : Nat) : Int) = k := by omega
    rcases DataW.trod_slice und67 h0 with ⟨e0, hy0⟩ | ⟨a, len, cap, elems, rest, n, _, e0, hy0, hbase, hlc, hcm, hlen, hel, _, _⟩
    · cases e0
      refine ⟨none, 0, 0, ⟨[], k.toNat⟩, by rw [show ((⟨[], k.toNat⟩ : Lin).num : Int) = k from hkk], ⟨rfl, fun i hi => by simp at hi⟩, by simp, by show k.toNat < _; omega, by simp⟩
    · cases e0
      have each : ∀ i, i < len → ∃ t : ByteArray × Nat, cellsAt W.heap (a.add (i * 2)) 0 (encT t) ∧ t.1.size ≤ maxLen ∧ t.2 < 4294967296 ∧ ∃ y, elems[i]? = some y ∧ Rows.uptoBulk y.1 = t.1.size + 3 := by
        intro i hi
        have he := hel i hi
        rw [c80] at he
        cases hy : elems[i]? with
        | none => rw [List.getElem?_eq_none_iff] at hy; omega
        | some y =>
          rw [hy] at he
          simp only [Option.bind_eq_some_iff] at he
          obtain ⟨cs', hcs, htr⟩ := he
          obtain ⟨v1, v2, rfl, g1, g2⟩ := cells2 hcs
          obtain ⟨t, ht, k1, k2, k3⟩ := open_term htr
          refine ⟨t, ?_, k1, k2, y, rfl, k3⟩
          rw [← ht]
          exact ⟨g1, g2, trivial⟩
      obtain ⟨us, hul, hus⟩ := choose_list _ len each
      have hmany : 3 * us.length ≤ Rows.uptoBulkAll (elems.map (·.1)) := by
        have := bulk_ge 3 (elems.map (·.1)) (fun d' hd' => by
          obtain ⟨y, hy, rfl⟩ := List.mem_map.1 hd'
          obtain ⟨i, hi, rfl⟩ := List.getElem_of_mem hy
          obtain ⟨_, _, _, y', hy', hyb⟩ := hus i (by omega)
          rw [List.getElem?_eq_getElem hi] at hy'
          cases hy'
          omega)
        rw [List.length_map] at this
        omega
      refine ⟨some a, len, cap, ⟨us, k.toNat⟩, by rw [show ((⟨us, k.toNat⟩ : Lin).num : Int) = k from hkk], ⟨hul.symm, fun i hi => ⟨a, rfl, (hus i hi).1⟩⟩, fun t (ht : t ∈ us) => ?_, by show k.toNat < _; omega, ?_⟩
      · obtain ⟨i, hi, rfl⟩ := List.getElem_of_mem ht
        exact ⟨(hus i hi).2.1, (hus i hi).2.2.1⟩
      · rw [hd, hy0]
        simp only [Rows.uptoBulk, Rows.uptoBulkAll]
        show 3 * us.length ≤ _
        omega
/-- An equ that lies in cells. -/
theorem open_equ {H : Type} {enc : TypeId × Value → H} {W : World} {base n : Nat} {sp : Nat → Bool} {held : Bool} {cs : List Value} {y : DataW H × List MemPlace} (h : DataW.trod enc Try.prog W base sp held n 38 cs = some y) :
    ∃ e : EqM, cs = eqV e ∧ VwT W.heap e.p e.l e.x.terms ∧ e.name.size ≤ maxLen ∧ (∀ t, t ∈ e.x.terms → t.1.size ≤ maxLen ∧ t.2 < 4294967296) ∧ e.x.num < 4294967296 ∧ 3 * e.x.terms.length + 1 ≤ Rows.uptoBulk y.1 := by
  obtain ⟨f0, f1, hu, a0, b0, a1, b1⟩ := str2 equS
  obtain ⟨y0, y1, m, rfl, hl, h0, h1⟩ := trod_struct2 hu h
  rw [c38] at hl
  rw [a0, b0, c9] at h0
  rw [a1, b1, c36] at h1
  match cs, hl with
  | [v, u, z], _ =>
    simp only [List.drop_zero, List.take_succ_cons, List.take_zero] at h0
    simp only [List.drop_succ_cons, List.drop_zero, List.take_succ_cons, List.take_zero] at h1
    obtain ⟨s, e0, rfl, hs⟩ := DataW.trod_string u9 h0
    cases e0
    obtain ⟨p, l, c, x, e1, vw, ht, hn, hb⟩ := open_lin_cells h1
    simp only [List.cons.injEq, and_true] at e1
    obtain ⟨rfl, rfl⟩ := e1
    refine ⟨⟨s, p, l, c, x⟩, rfl, vw, hs, ht, hn, ?_⟩
    simp only [Rows.uptoBulk, Rows.uptoBulkAll]
    show 3 * x.terms.length + 1 ≤ _
    omega
/-- Equs that were handed in. -/
structure EquIn (h : Hp) (p : Option Addr) (l c : Nat) (es : List EqM) (N : Nat) : Prop where
  vw : VwE h p l es
  blk : ∀ i, i ∈ blkOf p → i < h.size
  cap : l ≤ c
  capm : c ≤ maxLen
  nil : p = none → c = 0
  names : ∀ e, e ∈ es → e.name.size ≤ maxLen
  terms : ∀ e, e ∈ es → ∀ t, t ∈ e.x.terms → t.1.size ≤ maxLen ∧ t.2 < 4294967296
  num : ∀ e, e ∈ es → e.x.num < 4294967296
  many : es.length + 3 * (es.flatMap (·.x.terms)).length ≤ N
theorem flat_bulk {H : Type} : ∀ (es : List EqM) (ds : List (DataW H)), ds.length = es.length → (∀ i, (hi : i < es.length) → (hj : i < ds.length) → 3 * es[i].x.terms.length + 1 ≤ Rows.uptoBulk ds[i]) → es.length + 3 * (es.flatMap (·.x.terms)).length ≤ Rows.uptoBulkAll ds
  | [], ds, hl, h => by simp
  | e :: es, [], hl, h => by simp at hl
  | e :: es, d :: ds, hl, h => by
    have ih := flat_bulk es ds (by simpa using hl) (fun i hi hj => h (i + 1) (by simpa using hi) (by simpa using hj))
    have h0 := h 0 (by simp) (by simp)
    simp only [List.getElem_cons_zero] at h0
    rw [List.flatMap_cons, List.length_append, List.length_cons]
    unfold Rows.uptoBulkAll
    omega
theorem open_equs {H : Type} {enc : TypeId × Value → H} {W : World} {base b0 : Nat} {held : Bool} {sp : Nat → Bool} {v : Value} {d : DataW H} {ps : List MemPlace} (hval : Value.okWide Try.prog W .any b0 22 v) (h : DataW.Trod enc Try.prog W base sp held 22 v d ps) :
    ∃ p l c es, v = .slice p l c ∧ EquIn W.heap p l c es (Rows.uptoBulk d) := by
  have hval0 := hval
  obtain ⟨p, l, c, rfl⟩ := okWide_slice und22 hval
  obtain ⟨fuel, h⟩ := h
  have hlist : (Value.slice p l c).cells.toList = [.slice p l c] := rfl
  rw [hlist] at h
  rcases DataW.trod_slice und22 h with ⟨e0, hy0⟩ | ⟨a, len, cap, elems, rest, n, _, e0, hy0, hbase, hlc, hcm, hlen, hel, _, _⟩
  · cases e0
    exact ⟨none, 0, 0, [], rfl, ⟨rfl, fun i hi => by simp at hi, fun e he => by simp at he⟩, by simp [blkOf], Nat.le_refl _, Nat.zero_le _, fun _ => rfl, by simp, by simp, by simp, by simp⟩
  · cases e0
    have each : ∀ i, i < l → ∃ e : EqM, cellsAt W.heap (a.add (i * 3)) 0 (eqV e) ∧ VwT W.heap e.p e.l e.x.terms ∧ e.name.size ≤ maxLen ∧ (∀ t, t ∈ e.x.terms → t.1.size ≤ maxLen ∧ t.2 < 4294967296) ∧ e.x.num < 4294967296 ∧ ∃ y, elems[i]? = some y ∧ 3 * e.x.terms.length + 1 ≤ Rows.uptoBulk y.1 := by
      intro i hi
      have he := hel i hi
      rw [c38] at he
      cases hy : elems[i]? with
      | none => rw [List.getElem?_eq_none_iff] at hy; omega
      | some y =>
        rw [hy] at he
        simp only [Option.bind_eq_some_iff] at he
        obtain ⟨cs', hcs, htr⟩ := he
        obtain ⟨v1, v2, v3, rfl, g1, g2, g3⟩ := cells3 hcs
        obtain ⟨e, ht, k1, k2, k3, k4, k5⟩ := open_equ htr
        refine ⟨e, ?_, k1, k2, k3, k4, y, rfl, k5⟩
        rw [← ht]
        exact ⟨g1, g2, g3, trivial⟩
    obtain ⟨es, hul, hus⟩ := choose_list _ l each
    have hcell : ∃ x, hcell W.heap (a.add 0) = some x ∨ l = 0 := by
      by_cases hl : l = 0
      · exact ⟨.nilIface, .inr hl⟩
      · have := (hus 0 (by omega)).1.1
        rw [Nat.zero_mul, add_zero', add_zero'] at this
        exact ⟨_, .inl (by rw [add_zero']; exact this)⟩
    refine ⟨some a, l, c, es, rfl, ⟨hul.symm, fun i hi => ⟨a, rfl, (hus i hi).1⟩, fun e he => ?_⟩, ?_, hlc, hcm, (fun hh => by cases hh), fun e he => ?_, fun e he => ?_, fun e he => ?_, ?_⟩
    · obtain ⟨i, hi, rfl⟩ := List.getElem_of_mem he
      exact (hus i hi).2.1
    · intro i hi
      simp only [blkOf, List.mem_singleton] at hi
      subst hi
      have hv2 : Value.okWide Try.prog W .any b0 22 (.slice (some a) l c) := hval0
      unfold Value.okWide at hv2
      rw [und22] at hv2
      exact okSlice_lt und22 hv2
    · obtain ⟨i, hi, rfl⟩ := List.getElem_of_mem he
      exact (hus i hi).2.2.1
    · obtain ⟨i, hi, rfl⟩ := List.getElem_of_mem he
      exact (hus i hi).2.2.2.1
    · obtain ⟨i, hi, rfl⟩ := List.getElem_of_mem he
      exact (hus i hi).2.2.2.2.1
    · have hfb := flat_bulk es (elems.map (·.1)) (by rw [List.length_map]; omega) (fun i hi hj => by
        obtain ⟨_, _, _, _, _, y, hy, hyb⟩ := hus i hi
        rw [List.getElem_map]
        rw [List.length_map] at hj
        rw [List.getElem?_eq_getElem hj] at hy
        have := Option.some.inj hy
        rw [this]
        exact hyb)
      have hd : d = .slice (elems.map (·.1)) (rest.map (·.1)) := congrArg Prod.fst hy0
      rw [hd]
      simp only [Rows.uptoBulk]
      omega
end Go.Sx
