/- Contracts over heaps, and plain laws, for the functions that the laws of chapter 11 call, part 5: equ.turning over heaps: its map has just the marks of the plain walk. equ.turning's walk over heaps: what a visit's call comes to, for every height; the whole function. equ.turning's visit over heaps, for every height; equ.turning. equ.turning over heaps: its map marks just the names on a cycle. slices.Sort of texts over heaps; ranges over maps; equ.Cycle: the names on a cycle, rising. equ.Solve's solve over heaps: what a call comes to, for every name that is on no cycle's way. Condition: as each statement says. -/
import Derived.Test.YtpbjlnlekobodaaP4
import Derived.Test.YtpbjlnlekobodaaEquU
set_option linter.unusedVariables false
set_option linter.unusedSimpArgs false
set_option linter.deprecated false
set_option maxRecDepth 100000
namespace Go.Sx
open Go.Proofs
theorem add_zero' (a : Addr) : a.add 0 = a := by unfold Addr.add; rw [if_pos rfl]
theorem eqBL (a b : ByteArray) : (ByteArray.toList a == ByteArray.toList b) = decide (a = b) := by
  rw [ByteArray.toList_eq, ByteArray.toList_eq]
  by_cases h : a = b
  · subst h; simp
  · rw [decide_eq_false h]
    exact beq_eq_false_iff_ne.2 fun e => h (baExt e)
theorem SL.take {h : Hp} {b : Nat} {e : TypeId} {sz : Nat} {p : Option Addr} {l c : Nat} {xs : List (List Value)} (s : SL h b e sz p l c xs) {k : Nat} (hk : k ≤ l) : SL h b e sz p k c (xs.take k) := by
  refine ⟨by rw [List.length_take, ← s.1]; omega, fun x hx => s.2.1 x (List.mem_of_mem_take hx), ?_⟩
  cases p with
  | none =>
    obtain ⟨h1, h2⟩ := s.2.2
    subst h2
    exact ⟨h1, by simp⟩
  | some a =>
    obtain ⟨g, pre, rest, rfl, hbg, hlc, hbox, hr⟩ := s.2.2
    have hsplit : xs.flatten = (xs.take k).flatten ++ (xs.drop k).flatten := by rw [← List.flatten_append, List.take_append_drop]
    refine ⟨g, pre, (xs.drop k).flatten ++ rest, rfl, hbg, by omega, ?_, ?_⟩
    · rw [hsplit] at hbox
      simpa [List.append_assoc] using hbox
    · rw [List.length_append, flatten_length _ (fun x hx => s.2.1 x (List.mem_of_mem_drop hx)), List.length_drop, hr, ← s.1, ← Nat.add_mul]
      congr 1; omega
abbrev enS (x : ByteArray) : List Value := [.string x]
theorem und29 : Try.prog.underlying 29 = some (.slice 9) := by kernel_rfl
theorem strZS : (Try.prog.info? 9).map (fun i => (i.zero, i.size, i.bytes)) = some (some (.string ⟨#[]⟩), 1, 16) := by kernel_rfl
/-- slices.Index over texts. -/
theorem index_hc {h : Hp} {b : Nat} {p : Option Addr} {l c : Nat} {xs : List ByteArray} (s : SL h b 9 1 p l c (xs.map enS)) (v : ByteArray) (hv : v ∈ xs) (hl : l ≤ 2 ^ 40) :
    HCp Try.prog 41 [.slice p l c, .string v] h (.int .i64 ((xs.findIdx fun x => decide (v = x) : Nat) : Int)) := by
  refine hcp_of mixed Try.func41 (by kernel_rfl) (t_slices_Index___string_string__eq p l c v) ?_
  unfold t_slices_Index___string_string_
  have hll : l = xs.length := by rw [s.1, List.length_map]
  refine loop_of (cs := [(false, [.int .i64]), (false, [.int .i64])]) (fun x w h' => h' = h ∧ ∃ i : Nat, x.2.1 = (i : Int) ∧ i ≤ xs.length ∧ w = xs.length - i ∧ ∀ j, j < i → ∀ hj : j < xs.length, v ≠ xs[j]) ((0 : Int), (0 : Int), ()) xs.length rfl ⟨rfl, 0, rfl, by omega, by omega, fun j hj => by omega⟩ ?_
  rintro ⟨n2, n3, ⟨⟩⟩ w h2 ⟨rfl, i, hi, hile, rfl, hno⟩
  simp only at hi
  subst hi
  dsimp only [flat, unc, unc1, List.nil_append, List.cons_append]
  refine cond_mk (fun g1 => ?_) (fun g1 => ?_)
  · have g1 := of_decide_eq_true g1
    have hilt : i < xs.length := by omega
    refine need_of ⟨by omega, by omega⟩ ?_
    obtain ⟨a, rfl, hc⟩ := s.cells (i := i) (by simpa using hilt)
    rw [List.getElem_map] at hc
    refine osome_mk rfl ?_
    rw [show Int.toNat (i : Int) = i by omega]
    refine loads_of (xs[i], ()) hc ?_
    dsimp only [flat, unc, unc1, List.nil_append, List.cons_append]
    rw [eqBL]
    refine cond_mk (fun g2 => ?_) (fun g2 => ?_)
    · have g2 := of_decide_eq_true g2
      have : xs.findIdx (fun x => decide (v = x)) = i := by
        rw [List.findIdx_eq hilt]
        exact ⟨by simpa using g2, fun j hj => by simpa using hno j hj (by omega)⟩
      exact ⟨by rw [this], rfl⟩
    · have g2 := of_decide_eq_false g2
      have hw : IntKind.wrap .i64 ((i : Int) + 1) = ((i + 1 : Nat) : Int) := by rw [wrap_i64 (by omega) (by omega)]; omega
      refine again_mk (cs := [(false, [.int .i64]), (false, [.int .i64])]) (n2, ((i + 1 : Nat) : Int), ()) (xs.length - (i + 1)) rfl (by omega) (by rw [hw]; rfl) ⟨rfl, i + 1, rfl, by omega, rfl, fun j hj hjl => ?_⟩
      by_cases e : j = i
      · subst e; exact g2
      · exact hno j (by omega) hjl
  · have g1 := of_decide_eq_false g1
    have hi : i = xs.length := by omega
    subst hi
    obtain ⟨j, hj, e⟩ := List.getElem_of_mem hv
    exact (hno j hj hj e.symm).elim
def linE (es : List EqM) (s : ByteArray) : Lin := (((plc es s).bind fun k => es[k]?).map (·.x)).getD linZ
def ownE (es : List EqM) (s : ByteArray) : Bool := (plc es s).isSome
def namesE (es : List EqM) : List ByteArray := es.map (·.name)
theorem ownE_mem (es : List EqM) (s : ByteArray) : ownE es s = true ↔ s ∈ namesE es := by
  unfold ownE plc namesE
  rw [List.findIdx?_isSome, List.any_eq_true]
  simp
theorem plc_some {es : List EqM} {s : ByteArray} {k : Nat} (h : plc es s = some k) : ∃ hk : k < es.length, es[k].name = s ∧ linE es s = es[k].x := by
  have h' := h
  unfold plc at h'
  rw [List.findIdx?_eq_some_iff_getElem] at h'
  obtain ⟨hk, h1, h2⟩ := h'
  refine ⟨hk, of_decide_eq_true h1, ?_⟩
  unfold linE
  rw [h, Option.bind_some, List.getElem?_eq_getElem hk]
  rfl
theorem plc_own {es : List EqM} {s : ByteArray} (h : s ∈ namesE es) : ∃ k, plc es s = some k := by
  have := (ownE_mem es s).2 h
  unfold ownE at this
  exact Option.isSome_iff_exists.1 this
/-- Where the walk's things lie: boxes and maps, each behind the one ahead of it. -/
structure TF where
  E : Nat
  gA : Nat
  A : Nat
  gB : Nat
  B : Nat
  gN : Nat
  gL : Nat
  N : Nat
  L : Nat
  W : Nat
  gO : Nat
  O : Nat
  V : Nat
def TF.ord (r : TF) : Prop := r.E < r.gA ∧ r.gA < r.A ∧ r.A < r.gB ∧ r.gB < r.B ∧ r.B < r.gN ∧ r.gN < r.gL ∧ r.gL < r.N ∧ r.N < r.L ∧ r.L < r.W ∧ r.W < r.gO ∧ r.gO < r.O ∧ r.O < r.V
abbrev bx (g : Nat) : Addr := ⟨g, 0, none⟩
def TF.caps (r : TF) : List Value := [.pointer (some (bx r.N)), .pointer (some (bx r.L)), .pointer (some (bx r.W)), .pointer (some (bx r.O)), .pointer (some (bx r.E)), .pointer (some (bx r.A)), .pointer (some (bx r.B)), .pointer (some (bx r.V))]
/-- What does not turn. -/
structure CoM (r : TF) (h : Hp) (es : List EqM) (p0 : Option Addr) (l0 c0 : Nat) : Prop where
  bE : Box h r.E 22 [.slice p0 l0 c0]
  bA : Box h r.A 65 [.map (some r.gA)]
  mA : ∃ n, MapF eI h r.gA (plc es) n
  bV : Box h r.V 83 [.func (.func 40) #[] r.caps.toArray]
  bN : Box h r.N 65 [.map (some r.gN)]
  bL : Box h r.L 65 [.map (some r.gL)]
  bO : Box h r.O 32 [.map (some r.gO)]
  bB : Box h r.B 32 [.map (some r.gB)]
  vw : VwE h p0 l0 es
structure LowE (r : TF) (es : List EqM) (p0 : Option Addr) : Prop where
  ord : r.ord
  l0 : ∀ i, i ∈ blkOf p0 → i < r.E
  li : ∀ e, e ∈ es → e.x.terms ≠ [] → ∀ i, i ∈ blkOf e.p → i < r.E
theorem VwT.keepN {ws : List Nat} {h h' : Hp} {p : Option Addr} {l : Nat} {us : Tms} (v : VwT h p l us) (k : Ch ws h h') (hw : us ≠ [] → ∀ i, i ∈ blkOf p → i ∉ ws) : VwT h' p l us := by
  by_cases hn : us = []
  · subst hn
    exact ⟨v.len, fun i hi => by simp at hi⟩
  · exact v.keep k (hw hn)
theorem VwE.keepW {ws : List Nat} {h h' : Hp} {p : Option Addr} {l : Nat} {es : List EqM} (v : VwE h p l es) (k : Ch ws h h') (hp : ∀ i, i ∈ blkOf p → i ∉ ws) (hi : ∀ e, e ∈ es → e.x.terms ≠ [] → ∀ i, i ∈ blkOf e.p → i ∉ ws) : VwE h' p l es :=
  ⟨v.len, fun i hi => by
    obtain ⟨a, ha, hc⟩ := v.cells i hi
    exact ⟨a, ha, cellsAt_keep k (by rw [add_block]; exact hp _ (by rw [ha]; simp [blkOf])) _ _ hc⟩, fun e he => (v.inn e he).keepN k (hi e he)⟩
def wsV (r : TF) (p : Option Addr) : List Nat := r.gN :: r.gL :: r.gO :: r.gB :: r.W :: blkOf p
/-- What turns. -/
structure StM (r : TF) (h : Hp) (st : TS) (p : Option Addr) (l c : Nat) : Prop where
  mN : MapF eI h r.gN st.num st.cnt
  mL : ∃ n, MapF eI h r.gL st.low n
  mO : ∃ n, MapF eB h r.gO st.on n
  mB : ∃ n, MapF eB h r.gB st.back n
  bW : Box h r.W 29 [.slice p l c]
  w : SL h (r.V + 1) 9 1 p l c (st.way.map enS)
theorem CoM.keepW {r : TF} {h h' : Hp} {es : List EqM} {p0 : Option Addr} {l0 c0 : Nat} {ws : List Nat} (m : CoM r h es p0 l0 c0) (lo : LowE r es p0) (k : Ch ws h h') (hw : ∀ i, i ∈ ws → i = r.gN ∨ i = r.gL ∨ i = r.gO ∨ i = r.gB ∨ i = r.W ∨ r.V < i) : CoM r h' es p0 l0 c0 := by
  have o := lo.ord
  unfold TF.ord at o
  have nin : ∀ i, i ≠ r.gN → i ≠ r.gL → i ≠ r.gO → i ≠ r.gB → i ≠ r.W → i ≤ r.V → i ∉ ws := by
    intro i h1 h2 h3 h4 h5 h6 hi
    have := hw i hi
    omega
  obtain ⟨n, mA⟩ := m.mA
  exact ⟨m.bE.keep k (nin _ (by omega) (by omega) (by omega) (by omega) (by omega) (by omega)), m.bA.keep k (nin _ (by omega) (by omega) (by omega) (by omega) (by omega) (by omega)), ⟨n, mA.keep k (nin _ (by omega) (by omega) (by omega) (by omega) (by omega) (by omega))⟩,
    m.bV.keep k (nin _ (by omega) (by omega) (by omega) (by omega) (by omega) (by omega)), m.bN.keep k (nin _ (by omega) (by omega) (by omega) (by omega) (by omega) (by omega)), m.bL.keep k (nin _ (by omega) (by omega) (by omega) (by omega) (by omega) (by omega)),
    m.bO.keep k (nin _ (by omega) (by omega) (by omega) (by omega) (by omega) (by omega)), m.bB.keep k (nin _ (by omega) (by omega) (by omega) (by omega) (by omega) (by omega)),
    m.vw.keepW k (fun i hi => nin _ (by have := lo.l0 i hi; omega) (by have := lo.l0 i hi; omega) (by have := lo.l0 i hi; omega) (by have := lo.l0 i hi; omega) (by have := lo.l0 i hi; omega) (by have := lo.l0 i hi; omega))
      (fun e he hne i hi => nin _ (by have := lo.li e he hne i hi; omega) (by have := lo.li e he hne i hi; omega) (by have := lo.li e he hne i hi; omega) (by have := lo.li e he hne i hi; omega) (by have := lo.li e he hne i hi; omega) (by have := lo.li e he hne i hi; omega))⟩
theorem StM.keep {r : TF} {h h' : Hp} {st : TS} {p : Option Addr} {l c : Nat} (m : StM r h st p l c) (k : Ext h h') : StM r h' st p l c := by
  obtain ⟨n1, mL⟩ := m.mL
  obtain ⟨n2, mO⟩ := m.mO
  obtain ⟨n3, mB⟩ := m.mB
  exact ⟨m.mN.keep k (by simp), ⟨n1, mL.keep k (by simp)⟩, ⟨n2, mO.keep k (by simp)⟩, ⟨n3, mB.keep k (by simp)⟩, m.bW.keep k (by simp), m.w.keep k (by simp)⟩
/-- From one state to a later one. -/
structure Stp (r : TF) (p : Option Addr) (h : Hp) (p' : Option Addr) (h' : Hp) : Prop where
  ch : Ch (wsV r p) h h'
  blk : ∀ i, i ∈ blkOf p' → i ∈ blkOf p ∨ h.size ≤ i
theorem Stp.refl (r : TF) (p : Option Addr) (h : Hp) : Stp r p h p h := ⟨Ch.refl _ _, fun i hi => .inl hi⟩
theorem mem_wsV {r : TF} {p : Option Addr} {i : Nat} : i ∈ wsV r p ↔ i = r.gN ∨ i = r.gL ∨ i = r.gO ∨ i = r.gB ∨ i = r.W ∨ i ∈ blkOf p := by
  unfold wsV; simp
theorem Stp.trans {r : TF} {p q s : Option Addr} {a b c : Hp} (x : Stp r p a q b) (y : Stp r q b s c) : Stp r p a s c := by
  have hz := x.ch.size
  refine ⟨Ch.trans x.ch y.ch fun i hi hl => ?_, fun i hi => ?_⟩
  · rw [mem_wsV] at hi ⊢
    rcases hi with h | h | h | h | h | h
    · exact .inl h
    · exact .inr (.inl h)
    · exact .inr (.inr (.inl h))
    · exact .inr (.inr (.inr (.inl h)))
    · exact .inr (.inr (.inr (.inr (.inl h))))
    · rcases x.blk i h with h | h
      · exact .inr (.inr (.inr (.inr (.inr h))))
      · omega
  · rcases y.blk i hi with h | h
    · exact x.blk i h
    · exact .inr (by omega)
theorem Stp.ext {r : TF} {p : Option Addr} {h h' : Hp} (k : Ext h h') : Stp r p h p h' := ⟨k.mono (by simp), fun i hi => .inl hi⟩
theorem Stp.of {r : TF} {p : Option Addr} {h h' : Hp} {g : Nat} (k : Ch [g] h h') (hg : g = r.gN ∨ g = r.gL ∨ g = r.gO ∨ g = r.gB ∨ g = r.W) : Stp r p h p h' :=
  ⟨k.mono fun i hi hl => by simp at hi; subst hi; rw [mem_wsV]; rcases hg with h | h | h | h | h <;> simp [h], fun i hi => .inl hi⟩
theorem Stp.co {r : TF} {p p' : Option Addr} {l c : Nat} {h h' : Hp} {st : TS} {es : List EqM} {p0 : Option Addr} {l0 c0 : Nat} (x : Stp r p h p' h') (lo : LowE r es p0) (m : StM r h st p l c) (co : CoM r h es p0 l0 c0) : CoM r h' es p0 l0 c0 := by
  refine co.keepW lo x.ch fun i hi => ?_
  rw [mem_wsV] at hi
  rcases hi with h | h | h | h | h | h
  · exact .inl h
  · exact .inr (.inl h)
  · exact .inr (.inr (.inl h))
  · exact .inr (.inr (.inr (.inl h)))
  · exact .inr (.inr (.inr (.inr (.inl h))))
  · exact .inr (.inr (.inr (.inr (.inr (by have := (m.w.blk h).1; omega)))))
/-- A box of one's own stays. -/
theorem Stp.box {r : TF} {p p' : Option Addr} {l c : Nat} {h h' : Hp} {st : TS} {g : Nat} {e : TypeId} {xs : List Value} (x : Stp r p h p' h') (o : r.ord) (hg : r.V < g) (hp : g ∉ blkOf p) (b : Box h g e xs) : Box h' g e xs := by
  unfold TF.ord at o
  refine b.keep x.ch fun hi => ?_
  rw [mem_wsV] at hi
  rcases hi with h | h | h | h | h | h <;> first | omega | exact hp h
section
variable {L : Lp} {K : Value → Hp → Prop} {h : Hp} {r : TF} {st : TS} {p : Option Addr} {l c : Nat}
theorem StM.wblk (m : StM r h st p l c) {i : Nat} (hi : i ∈ blkOf p) : r.V < i := by have := (m.w.blk hi).1; omega
theorem StM.putN (m : StM r h st p l c) (o : r.ord) {s : ByteArray} (hs : s.size ≤ maxLen) {v : Int} {w : Nat} (hv : v = (w : Int)) {k : T} (hk : ∀ h', StM r h' { st with num := fset st.num s w, cnt := if (st.num s).isSome then st.cnt else st.cnt + 1 } p l c → Stp r p h p h' → h'.size = h.size → k L K h') :
    T.semU Try.prog (Instr.mapUpdate 65 (.map (some r.gN)) (.string s) (.int .i64 v)) k L K h := by
  unfold TF.ord at o
  obtain ⟨n1, mL⟩ := m.mL
  obtain ⟨n2, mO⟩ := m.mO
  obtain ⟨n3, mB⟩ := m.mB
  refine putI m.mN hs hv ?_
  intro h' m' c' z'
  exact hk h' ⟨m', ⟨n1, mL.keep c' (by simp; omega)⟩, ⟨n2, mO.keep c' (by simp; omega)⟩, ⟨n3, mB.keep c' (by simp; omega)⟩, m.bW.keep c' (by simp; omega), m.w.keep' c' (fun i hi => by have := m.wblk hi; simp; omega)⟩ (Stp.of c' (.inl rfl)) z'
theorem StM.putL (m : StM r h st p l c) (o : r.ord) {s : ByteArray} (hs : s.size ≤ maxLen) {v : Int} {w : Nat} (hv : v = (w : Int)) {k : T} (hk : ∀ h', StM r h' { st with low := fset st.low s w } p l c → Stp r p h p h' → h'.size = h.size → k L K h') :
    T.semU Try.prog (Instr.mapUpdate 65 (.map (some r.gL)) (.string s) (.int .i64 v)) k L K h := by
  unfold TF.ord at o
  obtain ⟨n1, mL⟩ := m.mL
  obtain ⟨n2, mO⟩ := m.mO
  obtain ⟨n3, mB⟩ := m.mB
  refine putI mL hs hv ?_
  intro h' m' c' z'
  exact hk h' ⟨m.mN.keep c' (by simp; omega), ⟨_, m'⟩, ⟨n2, mO.keep c' (by simp; omega)⟩, ⟨n3, mB.keep c' (by simp; omega)⟩, m.bW.keep c' (by simp; omega), m.w.keep' c' (fun i hi => by have := m.wblk hi; simp; omega)⟩ (Stp.of c' (.inr (.inl rfl))) z'
theorem StM.putO (m : StM r h st p l c) (o : r.ord) {s : ByteArray} (hs : s.size ≤ maxLen) {b : Bool} {k : T} (hk : ∀ h', StM r h' { st with on := fset st.on s b } p l c → Stp r p h p h' → h'.size = h.size → k L K h') :
    T.semU Try.prog (Instr.mapUpdate 32 (.map (some r.gO)) (.string s) (.bool b)) k L K h := by
  unfold TF.ord at o
  obtain ⟨n1, mL⟩ := m.mL
  obtain ⟨n2, mO⟩ := m.mO
  obtain ⟨n3, mB⟩ := m.mB
  refine putB mO hs ?_
  intro h' m' c' z'
  exact hk h' ⟨m.mN.keep c' (by simp; omega), ⟨n1, mL.keep c' (by simp; omega)⟩, ⟨_, m'⟩, ⟨n3, mB.keep c' (by simp; omega)⟩, m.bW.keep c' (by simp; omega), m.w.keep' c' (fun i hi => by have := m.wblk hi; simp; omega)⟩ (Stp.of c' (.inr (.inr (.inl rfl)))) z'
theorem StM.putK (m : StM r h st p l c) (o : r.ord) {s : ByteArray} (hs : s.size ≤ maxLen) {b : Bool} {k : T} (hk : ∀ h', StM r h' { st with back := fset st.back s b } p l c → Stp r p h p h' → h'.size = h.size → k L K h') :
    T.semU Try.prog (Instr.mapUpdate 32 (.map (some r.gB)) (.string s) (.bool b)) k L K h := by
  unfold TF.ord at o
  obtain ⟨n1, mL⟩ := m.mL
  obtain ⟨n2, mO⟩ := m.mO
  obtain ⟨n3, mB⟩ := m.mB
  refine putB mB hs ?_
  intro h' m' c' z'
  exact hk h' ⟨m.mN.keep c' (by simp; omega), ⟨n1, mL.keep c' (by simp; omega)⟩, ⟨n2, mO.keep c' (by simp; omega)⟩, ⟨_, m'⟩, m.bW.keep c' (by simp; omega), m.w.keep' c' (fun i hi => by have := m.wblk hi; simp; omega)⟩ (Stp.of c' (.inr (.inr (.inr (.inl rfl))))) z'
theorem StM.lookN (m : StM r h st p l c) (s : ByteArray) {k : Int → T} (hk : k (((st.num s).getD 0 : Nat) : Int) L K h) : T.sem Try.prog (Instr.lookup 65 (.map (some r.gN)) (.string s) false) false [(false, [.int .i64])] k L K h := lookI m.mN s hk
theorem StM.lookL (m : StM r h st p l c) (s : ByteArray) {k : Int → T} (hk : k (((st.low s).getD 0 : Nat) : Int) L K h) : T.sem Try.prog (Instr.lookup 65 (.map (some r.gL)) (.string s) false) false [(false, [.int .i64])] k L K h := by
  obtain ⟨n1, mL⟩ := m.mL
  exact lookI mL s hk
theorem StM.lookO (m : StM r h st p l c) (s : ByteArray) {k : Bool → T} (hk : k ((st.on s).getD false) L K h) : T.sem Try.prog (Instr.lookup 32 (.map (some r.gO)) (.string s) false) false [(false, [.bool])] k L K h := by
  obtain ⟨n1, mL⟩ := m.mO
  exact lookB mL s hk
theorem StM.lookK (m : StM r h st p l c) (s : ByteArray) {k : Bool → T} (hk : k ((st.back s).getD false) L K h) : T.sem Try.prog (Instr.lookup 32 (.map (some r.gB)) (.string s) false) false [(false, [.bool])] k L K h := by
  obtain ⟨n1, mL⟩ := m.mB
  exact lookB mL s hk
end
/-- Behind the question whether a name leads to itself: one tree for both answers. -/
def restT (aN aL aO aV a30 : Addr) (s : ByteArray) (n26 : Int) : T :=
  T.loads aN [.map 9 3] <| fun (r36 : Option Nat) =>
  T.loads a30 [.string] <| fun (s37 : ByteArray) =>
  T.sem Try.prog (Instr.lookup 65 (.map r36) (.string s37) false) false [(false, [.int .i64])] <| fun (n38 : Int) =>
  cond (n38 == (0 : Int))
   (T.loads aV [.func #[9] #[] false] <| fun (v39 : Value) =>
   T.loads a30 [.string] <| fun (s40 : ByteArray) =>
   T.callv Try.prog v39 [.string s40] true [] <| T.loads aL [.map 9 3] <| fun (r41 : Option Nat) =>
   T.loads aL [.map 9 3] <| fun (r42 : Option Nat) =>
   T.sem Try.prog (Instr.lookup 65 (.map r42) (.string s) false) false [(false, [.int .i64])] <| fun (n43 : Int) =>
   T.loads aL [.map 9 3] <| fun (r44 : Option Nat) =>
   T.loads a30 [.string] <| fun (s45 : ByteArray) =>
   T.sem Try.prog (Instr.lookup 65 (.map r44) (.string s45) false) false [(false, [.int .i64])] <| fun (n46 : Int) =>
   T.sem Try.prog (Builtin.min_ #[3, 3] 3 #[.int .i64 n43, .int .i64 n46]) false [(false, [.int .i64])] <| fun (n47 : Int) =>
   T.semU Try.prog (Instr.mapUpdate 65 (.map r41) (.string s) (.int .i64 n47)) <|
   T.again 0 [.int .i64 (IntKind.wrap .i64 (n26 + (1 : Int)))])
   (T.loads aO [.map 9 4] <| fun (r39 : Option Nat) =>
   T.loads a30 [.string] <| fun (s40 : ByteArray) =>
   T.sem Try.prog (Instr.lookup 32 (.map r39) (.string s40) false) false [(false, [.bool])] <| fun (b41 : Bool) =>
   cond b41
    (T.loads aL [.map 9 3] <| fun (r42 : Option Nat) =>
    T.loads aL [.map 9 3] <| fun (r43 : Option Nat) =>
    T.sem Try.prog (Instr.lookup 65 (.map r43) (.string s) false) false [(false, [.int .i64])] <| fun (n44 : Int) =>
    T.loads aN [.map 9 3] <| fun (r45 : Option Nat) =>
    T.loads a30 [.string] <| fun (s46 : ByteArray) =>
    T.sem Try.prog (Instr.lookup 65 (.map r45) (.string s46) false) false [(false, [.int .i64])] <| fun (n47 : Int) =>
    T.sem Try.prog (Builtin.min_ #[3, 3] 3 #[.int .i64 n44, .int .i64 n47]) false [(false, [.int .i64])] <| fun (n48 : Int) =>
    T.semU Try.prog (Instr.mapUpdate 65 (.map r42) (.string s) (.int .i64 n48)) <|
    T.again 0 [.int .i64 (IntKind.wrap .i64 (n26 + (1 : Int)))])
    (T.again 0 [.int .i64 (IntKind.wrap .i64 (n26 + (1 : Int)))]))
/-- Only names have numbers. -/
def InN (names : List ByteArray) (st : TS) : Prop := ∀ s, st.num s ≠ none → s ∈ names
/-- What a visit's call comes to. -/
def VisitOk (es : List EqM) (r : TF) (p0 : Option Addr) (l0 c0 f : Nat) : Prop :=
  ∀ (v : ByteArray) (st : TS) (h : Hp) (p : Option Addr) (l c : Nat), StM r h st p l c → CoM r h es p0 l0 c0 → GoodS (namesE es) st → v ∈ namesE es → st.num v = none → unn (namesE es) st ≤ f → InN (namesE es) st →
    HC Try.prog 40 (.string v :: r.caps).toArray h fun w h' => w = .tuple #[] ∧ ∃ p' l' c', StM r h' (visitF (ownE es) (succL (linE es)) f v st) p' l' c' ∧ Stp r p h p' h'
theorem hb40 : hasBody Try.prog 40 = true := by kernel_rfl
section
variable {L : Lp} {K : Value → Hp → Prop} {h : Hp} {r : TF} {st : TS} {p : Option Addr} {l c : Nat} {es : List EqM} {p0 : Option Addr} {l0 c0 : Nat}
theorem rest_ok {f : Nat} (hvis : VisitOk es r p0 l0 c0 f) (lo : LowE r es p0) (hs : ∀ s, s ∈ namesE es → s.size ≤ maxLen) (m : StM r h st p l c) (co : CoM r h es p0 l0 c0) (g : GoodS (namesE es) st) (hu : unn (namesE es) st ≤ f) (hi : InN (namesE es) st) {v w : ByteArray} (hv : v ∈ namesE es) (hw : w ∈ namesE es) {a : Nat} {q : Nat} (ha : r.V < a) (hap : a ∉ blkOf p) (b : Box h a 40 [.string w, .int .u32 (q : Int)]) (n26 : Int)
    (hk : ∀ h' p' l' c', StM r h' (restF (visitF (ownE es) (succL (linE es)) f) v w st) p' l' c' → Stp r p h p' h' → T.again 0 [.int .i64 (IntKind.wrap .i64 (n26 + (1 : Int)))] L K h') :
    restT (bx r.N) (bx r.L) (bx r.O) (bx r.V) (bx a) v n26 L K h := by
  unfold restT
  refine loads_box co.bN (some r.gN, ()) rfl ?_
  dsimp only [flat, unc, unc1, List.nil_append, List.cons_append]
  refine loads_box b (w, ()) rfl ?_
  dsimp only [flat, unc, unc1, List.nil_append, List.cons_append]
  refine m.lookN w ?_
  unfold restF at hk
  have hsv := hs v hv
  refine cond_mk (fun g1 => ?_) (fun g1 => ?_)
  · have g1 : (st.num w).getD 0 = 0 := by have := of_decide_eq_true g1; omega
    rw [if_pos g1] at hk
    refine loads_box co.bV (.func (.func 40) #[] r.caps.toArray, ()) rfl ?_
    dsimp only [flat, unc, unc1, List.nil_append, List.cons_append]
    refine loads_box b (w, ()) rfl ?_
    dsimp only [flat, unc, unc1, List.nil_append, List.cons_append]
    refine callv_of (cap := r.caps) hb40 rfl (hvis w st h p l c m co g hw (g.none g1) hu hi) ?_
    rintro _ h2 ⟨rfl, p2, l2, c2, m2, s2⟩
    refine ⟨(), rfl, ?_⟩
    dsimp only [flat, unc, unc1, List.nil_append, List.cons_append]
    have co2 := s2.co lo m co
    have b2 := s2.box (st := st) (l := l) (c := c) lo.ord ha hap b
    generalize visitF (ownE es) (succL (linE es)) f w st = st2 at m2 hk
    refine loads_box co2.bL (some r.gL, ()) rfl ?_
    dsimp only [flat, unc, unc1, List.nil_append, List.cons_append]
    refine loads_box co2.bL (some r.gL, ()) rfl ?_
    dsimp only [flat, unc, unc1, List.nil_append, List.cons_append]
    refine m2.lookL v ?_
    refine loads_box co2.bL (some r.gL, ()) rfl ?_
    dsimp only [flat, unc, unc1, List.nil_append, List.cons_append]
    refine loads_box b2 (w, ()) rfl ?_
    dsimp only [flat, unc, unc1, List.nil_append, List.cons_append]
    refine m2.lookL w ?_
    refine minI ?_
    refine m2.putL lo.ord hsv rfl ?_
    intro h3 m3 s3 z3
    exact hk h3 p2 l2 c2 m3 (s2.trans s3)
  · have g1 : ¬ (st.num w).getD 0 = 0 := by
      intro e
      rw [e] at g1
      simp at g1
    rw [if_neg g1] at hk
    refine loads_box co.bO (some r.gO, ()) rfl ?_
    dsimp only [flat, unc, unc1, List.nil_append, List.cons_append]
    refine loads_box b (w, ()) rfl ?_
    dsimp only [flat, unc, unc1, List.nil_append, List.cons_append]
    refine m.lookO w ?_
    refine cond_mk (fun g2 => ?_) (fun g2 => ?_)
    · rw [if_pos g2] at hk
      refine loads_box co.bL (some r.gL, ()) rfl ?_
      dsimp only [flat, unc, unc1, List.nil_append, List.cons_append]
      refine loads_box co.bL (some r.gL, ()) rfl ?_
      dsimp only [flat, unc, unc1, List.nil_append, List.cons_append]
      refine m.lookL v ?_
      refine loads_box co.bN (some r.gN, ()) rfl ?_
      dsimp only [flat, unc, unc1, List.nil_append, List.cons_append]
      refine loads_box b (w, ()) rfl ?_
      dsimp only [flat, unc, unc1, List.nil_append, List.cons_append]
      refine m.lookN w ?_
      refine minI ?_
      refine m.putL lo.ord hsv rfl ?_
      intro h3 m3 s3 z3
      exact hk h3 p l c m3 s3
    · rw [if_neg (by simp [g2])] at hk
      exact hk h p l c m (Stp.refl _ _ _)
end
end Go.Sx

set_option linter.unusedVariables false
set_option maxRecDepth 100000
namespace Go.Sx
open Go.Proofs
theorem InN.rest {names : List ByteArray} {vis : ByteArray → TS → TS} (hvis : ∀ w st, InN names st → w ∈ names → InN names (vis w st)) {v w : ByteArray} {st : TS} (hi : InN names st) (hw : w ∈ names) : InN names (restF vis v w st) := by
  unfold restF
  split
  · exact hvis w st hi hw
  · split <;> exact hi
theorem InN.step {names : List ByteArray} {own : ByteArray → Bool} (hown : ∀ s, own s = true → s ∈ names) {vis : ByteArray → TS → TS} (hvis : ∀ w st, InN names st → w ∈ names → InN names (vis w st)) {v w : ByteArray} {st : TS} (hi : InN names st) : InN names (stepF own vis v st w) := by
  unfold stepF
  split
  · rename_i ho
    refine InN.rest hvis ?_ (hown w ho)
    intro s hs
    rw [(selfF_num v w st).1] at hs
    exact hi s hs
  · exact hi
theorem InN.fold {names : List ByteArray} {own : ByteArray → Bool} (hown : ∀ s, own s = true → s ∈ names) {vis : ByteArray → TS → TS} (hvis : ∀ w st, InN names st → w ∈ names → InN names (vis w st)) {v : ByteArray} : ∀ (l : List ByteArray) (st : TS), InN names st → InN names (l.foldl (stepF own vis v) st)
  | [], st, hi => hi
  | w :: l, st, hi => by
    rw [List.foldl_cons]
    exact InN.fold hown hvis l _ (InN.step hown hvis hi)
theorem InN.open {names : List ByteArray} {st : TS} (hi : InN names st) {v : ByteArray} (hv : v ∈ names) : InN names (openF v st) := by
  intro s hs
  have hs : fset st.num v (st.cnt + 1) s ≠ none := hs
  by_cases e : s = v
  · rw [e]; exact hv
  · rw [fset_other _ _ e] at hs
    exact hi s hs
theorem InN.visit {names : List ByteArray} {own : ByteArray → Bool} (hown : ∀ s, own s = true → s ∈ names) (succ : ByteArray → List ByteArray) : ∀ (f : Nat) (v : ByteArray) (st : TS), InN names st → v ∈ names → InN names (visitF own succ f v st)
  | 0, v, st, hi, hv => hi
  | f + 1, v, st, hi, hv => by
    have h := InN.fold hown (fun w st hi hw => InN.visit hown succ f w st hi hw) (v := v) (succ v) _ (hi.open hv)
    unfold visitF
    split
    · exact h
    · intro s hs
      rw [popF_num] at hs
      exact h s hs
theorem SL.le_cap {h : Hp} {b : Nat} {e : TypeId} {sz : Nat} {p : Option Addr} {l c : Nat} {xs : List (List Value)} (s : SL h b e sz p l c xs) : l ≤ c := by
  cases p with
  | none =>
    obtain ⟨h1, h2⟩ := s.2.2
    rw [s.1, h1, h2]; simp
  | some a =>
    obtain ⟨g, pre, rest, rfl, hbg, hlc, hbox, hr⟩ := s.2.2
    exact hlc.1
section
variable {L : Lp} {K : Value → Hp → Prop} {h : Hp} {r : TF} {st : TS} {p : Option Addr} {l c : Nat} {es : List EqM} {p0 : Option Addr} {l0 c0 : Nat}
/-- The way with another slice of its own. -/
theorem StM.setW (m : StM r h st p l c) (o : r.ord) {p' : Option Addr} {l' c' : Nat} {h1 : Hp} {way' : List ByteArray} (k1 : Ch (blkOf p) h h1) (s1 : SL h1 (r.V + 1) 9 1 p' l' c' (way'.map enS)) (hb : ∀ i, i ∈ blkOf p' → i ∈ blkOf p ∨ h.size ≤ i) {k : T}
    (hk : ∀ h', StM r h' { st with way := way' } p' l' c' → Stp r p h p' h' → k L K h') : T.stores (bx r.W) [.slice p' l' c'] k L K h1 := by
  have o' := o
  unfold TF.ord at o
  obtain ⟨n1, mL⟩ := m.mL
  obtain ⟨n2, mO⟩ := m.mO
  obtain ⟨n3, mB⟩ := m.mB
  have nb : ∀ g, g ≤ r.V → g ∉ blkOf p := fun g hg hi => by have := m.wblk hi; omega
  refine stores_of (m.bW.keep k1 (nb _ (by omega))) rfl (by simp) ?_
  intro h2 b2 k2 z2
  have b2 : Box h2 r.W 29 [.slice p' l' c'] := b2
  refine hk h2 ⟨(m.mN.keep k1 (nb _ (by omega))).keep k2 (by simp; omega), ⟨n1, (mL.keep k1 (nb _ (by omega))).keep k2 (by simp; omega)⟩, ⟨n2, (mO.keep k1 (nb _ (by omega))).keep k2 (by simp; omega)⟩, ⟨n3, (mB.keep k1 (nb _ (by omega))).keep k2 (by simp; omega)⟩, b2, s1.keep' k2 (fun i hi => by have := (s1.blk hi).1; simp; omega)⟩
    ⟨Ch.trans (k1.mono fun i hi _ => by rw [mem_wsV]; simp [hi]) k2 (fun i hi hl => by simp at hi; rw [mem_wsV]; simp [hi]), hb⟩
theorem StM.pushW (m : StM r h st p l c) (o : r.ord) (hV : r.V < h.size) (hl : l ≤ 2 ^ 40) {v : ByteArray} {k : T} (hk : ∀ h' p' c', StM r h' { st with way := st.way ++ [v] } p' (l + 1) c' → Stp r p h p' h' → k L K h') :
    T.sem Try.prog (Instr.buildSlice 29 1 #[(0, .string v)]) false [(false, [.slice 0])] (fun q m' cc => T.sem Try.prog (Builtin.append_ #[29, 29] 29 #[.slice p l c, .slice q m' cc]) false [(false, [.slice 0])] (fun p13 l14 l15 => T.stores (bx r.W) [.slice p13 l14 l15] k)) L K h := by
  refine push_of (vs := enS v) und29 strZS rfl (by omega) (by omega) (by kernel_rfl) rfl rfl m.w (by omega) (by omega) (by omega) ?_
  intro p' c' h1 s1 k1 hp
  refine m.setW o k1 (way' := st.way ++ [v]) (by simpa using s1) (fun i hi => ?_) (fun h' m' s' => hk h' p' c' m' s')
  rcases hp with rfl | ⟨a, rfl, ha⟩
  · exact .inl hi
  · simp [blkOf] at hi; subst hi; exact .inr ha
/-- The loop that closes a part of the way. -/
def popT (aO aB aW : Addr) (p35 : Option Addr) (l36 l37 : Nat) (n34 : Int) : T :=
   T.loop [(false, [.int .i64])] [.int .i64 (0 : Int)] <| fun (n38 : Int) =>
   cond (decide (n38 < ((((Int.toNat (l36 : Int)) - (Int.toNat n34)) : Nat) : Int)))
    (T.need (((0 : Int) ≤ n38) ∧ (n38 < ((((Int.toNat (l36 : Int)) - (Int.toNat n34)) : Nat) : Int))) <|
    T.osome (if (l37 = (Int.toNat n34)) then p35 else (Option.map (fun a => Addr.add a ((Int.toNat n34) * 1)) p35)) <| fun (a39 : Addr) =>
    T.loads (a39.add ((Int.toNat n38) * 1)) [.string] <| fun (s40 : ByteArray) =>
    T.loads aO [.map 9 4] <| fun (r41 : Option Nat) =>
    T.semU Try.prog (Instr.mapUpdate 32 (.map r41) (.string s40) (.bool false)) <|
    T.loads aB [.map 9 4] <| fun (r42 : Option Nat) =>
    T.loads aB [.map 9 4] <| fun (r43 : Option Nat) =>
    T.sem Try.prog (Instr.lookup 32 (.map r43) (.string s40) false) false [(false, [.bool])] <| fun (b44 : Bool) =>
    cond b44
     (T.semU Try.prog (Instr.mapUpdate 32 (.map r42) (.string s40) (.bool true)) <|
     T.again 1 [.int .i64 (IntKind.wrap .i64 (n38 + (1 : Int)))])
     (T.loads aW [.slice 9] <| fun (p45 : Option Addr) (l46 : Nat) (l47 : Nat) =>
     T.semU Try.prog (Instr.mapUpdate 32 (.map r42) (.string s40) (.bool (decide ((IntKind.wrap .i64 ((l46 : Int) - n34)) > (1 : Int))))) <|
     T.again 1 [.int .i64 (IntKind.wrap .i64 (n38 + (1 : Int)))]))
    (T.loads aW [.slice 9] <| fun (p39 : Option Addr) (l40 : Nat) (l41 : Nat) =>
    T.need (((0 : Int) ≤ (0 : Int)) ∧ (((0 : Int) ≤ n34) ∧ (n34 ≤ (l41 : Int)))) <|
    T.stores aW [.slice (if (l41 = 0) then p39 else (Option.map (fun a => Addr.add a 0) p39)) ((Int.toNat n34) - 0) (l41 - 0)] <|
    T.ret (.tuple #[]))
theorem pop_ok {lv : List Value → Hp → Prop} (lo : LowE r es p0) (hs : ∀ s, s ∈ namesE es → s.size ≤ maxLen) (m : StM r h st p l c) (co : CoM r h es p0 l0 c0) (hi : InN (namesE es) st) (g : GoodS (namesE es) st) (hl : l ≤ 2 ^ 40) {v : ByteArray} (hk0 : popK v st ≤ st.way.length)
    (hk : ∀ h' p' l' c', StM r h' (popF v st) p' l' c' → Stp r p h p' h' → K (.tuple #[]) h') : popT (bx r.O) (bx r.B) (bx r.W) p l c ((popK v st : Nat) : Int) [lv] K h := by
  unfold popT
  have hlen : l = st.way.length := by rw [m.w.1, List.length_map]
  have hcap := m.w.le_cap
  rw [show Int.toNat ((popK v st : Nat) : Int) = popK v st by omega, show Int.toNat (l : Int) = l by omega]
  generalize hkk : popK v st = k at *
  have hbig : decide (1 < st.way.length - popK v st) = decide (1 < l - k) := by rw [hkk, hlen]
  unfold popF at hk
  rw [hbig, hkk] at hk
  refine loop_of (cs := [(false, [.int .i64])]) (fun x w h' => ∃ i : Nat, x.1 = (i : Int) ∧ i ≤ l - k ∧ w = l - k - i ∧ StM r h' (((st.way.drop k).take i).foldl (offF (decide (1 < l - k))) st) p l c ∧ Stp r p h p h') ((0 : Int), ()) (l - k) rfl ⟨0, rfl, by omega, by omega, by simpa using m, Stp.refl _ _ _⟩ ?_
  rintro ⟨n38, ⟨⟩⟩ w h2 ⟨i, hi0, hile, rfl, m2, s2⟩
  simp only at hi0
  subst hi0
  dsimp only [flat, unc, unc1, List.nil_append, List.cons_append]
  have co2 := s2.co lo m co
  have hway : ∀ (w : List ByteArray) (st : TS), (w.foldl (offF (decide (1 < l - k))) st).way = st.way := by
    intro w
    induction w with
    | nil => intro st; rfl
    | cons x w ih => intro st; rw [List.foldl_cons, ih]; rfl
  refine cond_mk (fun g1 => ?_) (fun g1 => ?_)
  · have g1 := of_decide_eq_true g1
    have hilt : k + i < st.way.length := by omega
    refine need_of ⟨by omega, by omega⟩ ?_
    rw [if_neg (by omega)]
    have hsl := m2.w
    rw [hway] at hsl
    obtain ⟨a, rfl, hc⟩ := hsl.cells (i := k + i) (by simpa using hilt)
    rw [List.getElem_map] at hc
    refine osome_mk rfl ?_
    rw [show Int.toNat (i : Int) = i by omega, add_add, ← Nat.add_mul]
    have hmem : st.way[k + i] ∈ namesE es := hi _ (g.inn _ (List.getElem_mem hilt))
    have htk : (st.way.drop k).take (i + 1) = (st.way.drop k).take i ++ [st.way[k + i]] := by
      rw [List.take_succ_eq_append_getElem (by rw [List.length_drop]; omega), List.getElem_drop]
    generalize st.way[k + i] = x at hc hmem htk
    refine loads_of (x, ()) hc ?_
    dsimp only [flat, unc, unc1, List.nil_append, List.cons_append]
    have hsz := hs x hmem
    generalize hst2 : ((st.way.drop k).take i).foldl (offF (decide (1 < l - k))) st = st2 at m2
    have hst3 : ((st.way.drop k).take (i + 1)).foldl (offF (decide (1 < l - k))) st = offF (decide (1 < l - k)) st2 x := by rw [htk, List.foldl_append, hst2]; rfl
    refine loads_box co2.bO (some r.gO, ()) rfl ?_
    dsimp only [flat, unc, unc1, List.nil_append, List.cons_append]
    refine m2.putO lo.ord hsz ?_
    intro h3 m3 s3 z3
    have co3 := s3.co lo m2 co2
    refine loads_box co3.bB (some r.gB, ()) rfl ?_
    dsimp only [flat, unc, unc1, List.nil_append, List.cons_append]
    refine loads_box co3.bB (some r.gB, ()) rfl ?_
    dsimp only [flat, unc, unc1, List.nil_append, List.cons_append]
    refine m3.lookK x ?_
    have hw : IntKind.wrap .i64 ((i : Int) + 1) = ((i + 1 : Nat) : Int) := by rw [wrap_i64 (by omega) (by omega)]; omega
    refine cond_mk (fun g2 => ?_) (fun g2 => ?_)
    · have g2 : (st2.back x).getD false = true := g2
      refine m3.putK lo.ord hsz ?_
      intro h4 m4 s4 z4
      refine again_mk (cs := [(false, [.int .i64])]) (((i + 1 : Nat) : Int), ()) (l - k - (i + 1)) rfl (by omega) (congrArg (fun z => [Value.int .i64 z]) hw) ⟨i + 1, rfl, by omega, rfl, ?_, (s2.trans s3).trans s4⟩
      rw [hst3]
      unfold offF
      rw [g2]
      exact m4
    · have g2 : (st2.back x).getD false = false := g2
      refine loads_box m3.bW ((_, _, _), ()) rfl ?_
      dsimp only [flat, unc, unc1, List.nil_append, List.cons_append]
      refine m3.putK lo.ord hsz ?_
      intro h4 m4 s4 z4
      refine again_mk (cs := [(false, [.int .i64])]) (((i + 1 : Nat) : Int), ()) (l - k - (i + 1)) rfl (by omega) (congrArg (fun z => [Value.int .i64 z]) hw) ⟨i + 1, rfl, by omega, rfl, ?_, (s2.trans s3).trans s4⟩
      rw [hst3]
      unfold offF
      rw [g2, Bool.false_or]
      have e : decide ((IntKind.wrap .i64 ((l : Int) - (k : Int))) > (1 : Int)) = decide (1 < l - k) := by
        rw [wrap_i64 (by omega) (by omega)]
        exact decide_eq_decide.2 (by omega)
      rw [e] at m4
      exact m4
  · have g1 := of_decide_eq_false g1
    have hii : i = l - k := by omega
    subst hii
    have htk : (st.way.drop k).take (l - k) = st.way.drop k := List.take_of_length_le (by rw [List.length_drop]; omega)
    rw [htk] at m2
    have hpp : (if c = 0 then p else (Option.map (fun a => Addr.add a 0) p)) = p := by
      split
      · rfl
      · cases p with
        | none => rfl
        | some a => simp only [Option.map_some, add_zero']
    refine loads_box m2.bW ((p, l, c), ()) rfl ?_
    dsimp only [flat, unc, unc1, List.nil_append, List.cons_append]
    refine need_of ⟨by omega, by omega, by omega⟩ ?_
    rw [hpp, Nat.sub_zero, Nat.sub_zero]
    have hsl := m2.w
    rw [hway] at hsl
    have hsk := hsl.take (k := k) (by omega)
    rw [← List.map_take] at hsk
    refine m2.setW lo.ord (Ch.refl _ _) hsk (fun i hi => .inl hi) ?_
    intro h4 m4 s4
    exact hk h4 p k c m4 (s2.trans s4)
end
end Go.Sx

set_option linter.unusedVariables false
set_option maxRecDepth 100000
namespace Go.Sx
open Go.Proofs
/-- What is asked of the equs. -/
structure EqsOk (es : List EqM) : Prop where
  nodup : (namesE es).Nodup
  len : es.length ≤ 2 ^ 40
  sz : ∀ e, e ∈ es → e.name.size ≤ maxLen
  tl : ∀ e, e ∈ es → e.x.terms.length ≤ 2 ^ 40
  ts : ∀ e, e ∈ es → ∀ t, t ∈ e.x.terms → t.1.size ≤ maxLen
theorem EqsOk.names {es : List EqM} (o : EqsOk es) : ∀ s, s ∈ namesE es → s.size ≤ maxLen := by
  intro s hs
  obtain ⟨e, he, rfl⟩ := List.mem_map.1 hs
  exact o.sz e he
section
variable {r : TF} {es : List EqM} {p0 : Option Addr} {l0 c0 : Nat}
theorem visit_ok (eo : EqsOk es) (lo : LowE r es p0) : ∀ f, VisitOk es r p0 l0 c0 f := by
  intro f
  have hown : ∀ s, ownE es s = true → s ∈ namesE es := fun s => (ownE_mem es s).1
  have hs := eo.names
  have hnl : (namesE es).length = es.length := by unfold namesE; rw [List.length_map]
  induction f with
  | zero =>
    intro v st h p l c m co g hv h0 hu hi
    have := (g.open eo.nodup hv h0).2
    omega
  | succ f ih =>
    intro v st h p l c m co g hv h0 hu hi
    have o := lo.ord
    have o' := o
    unfold TF.ord at o'
    have hlen := eo.len
    refine hcr_of (args := .string v :: r.caps) mixed Try.func40 (by kernel_rfl) (t_equ_turning_1_visit_eq v (bx r.N) (bx r.L) (bx r.W) (bx r.O) (bx r.E) (bx r.A) (bx r.B) (bx r.V)) ?_
    unfold t_equ_turning_1_visit
    have hsv := hs v hv
    have hcnt : st.cnt ≤ es.length := by have := g.sum; omega
    have hway := g.way
    have hll : l = st.way.length := by rw [m.w.1, List.length_map]
    have hV := co.bV.lt
    refine loads_box co.bN (some r.gN, ()) rfl ?_
    dsimp only [flat, unc, unc1, List.nil_append, List.cons_append]
    refine loads_box co.bN (some r.gN, ()) rfl ?_
    dsimp only [flat, unc, unc1, List.nil_append, List.cons_append]
    refine lenF (en := eI) m.mN ?_
    refine m.putN o hsv (w := st.cnt + 1) (by rw [wrap_i64 (by omega) (by omega)]; omega) ?_
    intro h1 m1 s1 z1
    have hnone : (st.num v).isSome = false := by rw [h0]; rfl
    rw [hnone] at m1
    simp only [Bool.false_eq_true, if_false] at m1
    have co1 := s1.co lo m co
    refine loads_box co1.bL (some r.gL, ()) rfl ?_
    dsimp only [flat, unc, unc1, List.nil_append, List.cons_append]
    refine loads_box co1.bN (some r.gN, ()) rfl ?_
    dsimp only [flat, unc, unc1, List.nil_append, List.cons_append]
    refine m1.lookN v ?_
    refine m1.putL o hsv rfl ?_
    intro h2 m2 s2 z2
    simp only [fset_same, Option.getD_some] at m2
    have co2 := s2.co lo m1 co1
    refine loads_box m2.bW ((p, l, c), ()) rfl ?_
    dsimp only [flat, unc, unc1, List.nil_append, List.cons_append]
    refine m2.pushW o (by omega) (by omega) ?_
    intro h3 p3 c3 m3 s3
    have co3 := s3.co lo m2 co2
    refine loads_box co3.bO (some r.gO, ()) rfl ?_
    dsimp only [flat, unc, unc1, List.nil_append, List.cons_append]
    refine m3.putO o hsv ?_
    intro h4 m4 s4 z4
    have co4 := s4.co lo m3 co3
    have s04 : Stp r p h p3 h4 := ((s1.trans s2).trans s3).trans s4
    replace m4 : StM r h4 (openF v st) p3 (l + 1) c3 := m4
    refine loads_box co4.bE ((p0, l0, c0), ()) rfl ?_
    dsimp only [flat, unc, unc1, List.nil_append, List.cons_append]
    refine loads_box co4.bA (some r.gA, ()) rfl ?_
    dsimp only [flat, unc, unc1, List.nil_append, List.cons_append]
    obtain ⟨nA, mA⟩ := co4.mA
    refine lookI mA v ?_
    obtain ⟨k, hk⟩ := plc_own hv
    obtain ⟨hkl, hkn, hkx⟩ := plc_some hk
    have hl0 := co4.vw.len
    rw [hk]
    simp only [Option.getD_some]
    refine need_of ⟨by omega, by omega⟩ ?_
    obtain ⟨a, ha, hc⟩ := co4.vw.cells k hkl
    refine osome_mk ha ?_
    rw [show Int.toNat (k : Int) = k by omega]
    have hin := co4.vw.inn es[k] (List.getElem_mem hkl)
    have hinW : ∀ h', CoM r h' es p0 l0 c0 → VwT h' es[k].p es[k].l es[k].x.terms := fun h' co' => co'.vw.inn es[k] (List.getElem_mem hkl)
    have htl := eo.tl es[k] (List.getElem_mem hkl)
    have hts := eo.ts es[k] (List.getElem_mem hkl)
    have hli := lo.li es[k] (List.getElem_mem hkl)
    have hsu : succL (linE es) v = es[k].x.terms.map (·.1) := by unfold succL; rw [hkx]
    generalize es[k] = e at hc hin hinW htl hts hli hsu
    refine loads_of ((e.p, e.l, e.c), ()) ⟨by rw [add_zero']; exact hc.2.1, trivial⟩ ?_
    dsimp only [flat, unc, unc1, List.nil_append, List.cons_append]
    have hel := hin.len
    have hgood := fun l => fold_good eo.nodup hown (succL (linE es)) g hv h0 hu l
    have hinn : ∀ l : List ByteArray, InN (namesE es) (l.foldl (stepF (ownE es) (visitF (ownE es) (succL (linE es)) f) v) (openF v st)) := fun l => InN.fold hown (fun w st hi hw => InN.visit hown (succL (linE es)) f w st hi hw) l _ (hi.open hv)
    refine loop_of (cs := [(false, [.int .i64])]) (fun x w h' => ∃ (i : Nat) (p' : Option Addr) (l' c' : Nat), x.1 = (i : Int) ∧ i ≤ e.x.terms.length ∧ w = e.x.terms.length - i ∧ StM r h' (((e.x.terms.map (·.1)).take i).foldl (stepF (ownE es) (visitF (ownE es) (succL (linE es)) f) v) (openF v st)) p' l' c' ∧ Stp r p h p' h')
      ((0 : Int), ()) e.x.terms.length rfl ⟨0, p3, l + 1, c3, rfl, by omega, by omega, m4, s04⟩ ?_
    rintro ⟨n26, ⟨⟩⟩ w h5 ⟨i, p5, l5, c5, hi0, hile, rfl, m5, s5⟩
    simp only at hi0
    subst hi0
    dsimp only [flat, unc, unc1, List.nil_append, List.cons_append]
    have co5 := s5.co lo m co
    obtain ⟨g5, hu5, hpre5, n5, hn5⟩ := hgood ((e.x.terms.map (·.1)).take i)
    have hi5 := hinn ((e.x.terms.map (·.1)).take i)
    have hk5 := fun hi : i < e.x.terms.length => (show (e.x.terms.map (·.1)).take (i + 1) = (e.x.terms.map (·.1)).take i ++ [e.x.terms[i].1] by
      rw [List.take_succ_eq_append_getElem (by rw [List.length_map]; exact hi), List.getElem_map])
    have hfin : i = e.x.terms.length → (e.x.terms.map (·.1)).take i = succL (linE es) v := by
      intro hh
      rw [hsu]
      exact List.take_of_length_le (by rw [List.length_map]; omega)
    have hfold : ∀ hi : i < e.x.terms.length, ((e.x.terms.map (·.1)).take (i + 1)).foldl (stepF (ownE es) (visitF (ownE es) (succL (linE es)) f) v) (openF v st) = stepF (ownE es) (visitF (ownE es) (succL (linE es)) f) v (((e.x.terms.map (·.1)).take i).foldl (stepF (ownE es) (visitF (ownE es) (succL (linE es)) f) v) (openF v st)) e.x.terms[i].1 := by
      intro hi
      rw [hk5 hi, List.foldl_append]; rfl
    have hvis : visitF (ownE es) (succL (linE es)) (f + 1) v st = (if lwV ((succL (linE es) v).foldl (stepF (ownE es) (visitF (ownE es) (succL (linE es)) f) v) (openF v st)) v < nmV ((succL (linE es) v).foldl (stepF (ownE es) (visitF (ownE es) (succL (linE es)) f) v) (openF v st)) v then (succL (linE es) v).foldl (stepF (ownE es) (visitF (ownE es) (succL (linE es)) f) v) (openF v st) else popF v ((succL (linE es) v).foldl (stepF (ownE es) (visitF (ownE es) (succL (linE es)) f) v) (openF v st))) := rfl
    refine cond_mk (fun g1 => ?_) (fun g1 => ?_)
    · have g1 := of_decide_eq_true g1
      have hilt : i < e.x.terms.length := by omega
      have hfold := hfold hilt
      refine need_of ⟨by omega, by omega⟩ ?_
      obtain ⟨a2, ha2, hc2⟩ := (hinW h5 co5).cells i hilt
      refine osome_mk ha2 ?_
      rw [show Int.toNat (i : Int) = i by omega]
      have htsi := hts e.x.terms[i] (List.getElem_mem hilt)
      generalize e.x.terms[i] = t at hc2 htsi hfold
      generalize hst5 : ((e.x.terms.map (·.1)).take i).foldl (stepF (ownE es) (visitF (ownE es) (succL (linE es)) f) v) (openF v st) = st5 at m5 g5 hu5 hi5 hfold
      refine loads_of (t.1, (t.2 : Int), ()) hc2 ?_
      dsimp only [flat, unc, unc1, List.nil_append, List.cons_append]
      refine newB ?_
      intro h6 b6 e6 z6
      refine stores_of b6 rfl (by simp) ?_
      intro h7 b7 k7 z7
      have b7 : Box h7 h5.size 40 [.string t.1, .int .u32 (t.2 : Int)] := b7
      have e57 : Ext h5 h7 := Ch.trans e6 k7 (fun j hj hl => by simp at hj; omega)
      have co7 := co5.keepW lo e57 (by simp)
      have m7 := m5.keep e57
      have s57 : Stp r p5 h5 p5 h7 := Stp.ext e57
      have ha7 := co5.bV.lt
      have hap : h5.size ∉ blkOf p5 := fun hb => by have := (m5.w.blk hb).2; omega
      have hw : IntKind.wrap .i64 ((i : Int) + 1) = ((i + 1 : Nat) : Int) := by rw [wrap_i64 (by omega) (by omega)]; omega
      refine loads_box co7.bA (some r.gA, ()) rfl ?_
      dsimp only [flat, unc, unc1, List.nil_append, List.cons_append]
      refine loads_box b7 (t.1, ()) rfl ?_
      dsimp only [flat, unc, unc1, List.nil_append, List.cons_append]
      obtain ⟨nA7, mA7⟩ := co7.mA
      refine lookIb mA7 t.1 ?_
      refine cond_mk (fun g2 => ?_) (fun g2 => ?_)
      · have g2 : ¬ ownE es t.1 = true := by
          unfold ownE
          intro hh
          rw [hh] at g2
          cases g2
        have hst : stepF (ownE es) (visitF (ownE es) (succL (linE es)) f) v st5 t.1 = st5 := if_neg g2
        refine again_mk (cs := [(false, [.int .i64])]) (((i + 1 : Nat) : Int), ()) (e.x.terms.length - (i + 1)) rfl (by omega) (congrArg (fun z => [Value.int .i64 z]) hw) ⟨i + 1, p5, l5, c5, rfl, by omega, rfl, ?_, s5.trans s57⟩
        rw [hfold, hst]
        exact m7
      · have g2 : ownE es t.1 = true := by
          unfold ownE
          cases hh : (plc es t.1).isSome with
          | true => rfl
          | false => rw [hh] at g2; cases g2
        have hwn := hown _ g2
        have hst : stepF (ownE es) (visitF (ownE es) (succL (linE es)) f) v st5 t.1 = restF (visitF (ownE es) (succL (linE es)) f) v t.1 (selfF v t.1 st5) := if_pos g2
        rw [hst] at hfold
        have g8 := g5.self v t.1
        have hu8 : unn (namesE es) (selfF v t.1 st5) ≤ f := by unfold unn; rw [(selfF_num v t.1 st5).1]; exact hu5
        have hi8 : InN (namesE es) (selfF v t.1 st5) := by intro s hs; rw [(selfF_num v t.1 st5).1] at hs; exact hi5 s hs
        refine loads_box b7 (t.1, ()) rfl ?_
        dsimp only [flat, unc, unc1, List.nil_append, List.cons_append]
        rw [eqBL]
        refine cond_mk (fun g3 => ?_) (fun g3 => ?_)
        · have g3 := of_decide_eq_true g3
          refine loads_box co7.bB (some r.gB, ()) rfl ?_
          dsimp only [flat, unc, unc1, List.nil_append, List.cons_append]
          refine m7.putK o hsv ?_
          intro h8 m8 s8 z8
          have e8 : selfF v t.1 st5 = { st5 with back := fset st5.back v true } := if_pos g3
          rw [← e8] at m8
          have co8 := s8.co lo m7 co7
          have b8 := s8.box (st := st5) (l := l5) (c := c5) o ha7 hap b7
          refine rest_ok ih lo hs m8 co8 g8 hu8 hi8 hv hwn ha7 hap b8 (i : Int) ?_
          intro h9 p9 l9 c9 m9 s9
          refine again_mk (cs := [(false, [.int .i64])]) (((i + 1 : Nat) : Int), ()) (e.x.terms.length - (i + 1)) rfl (by omega) (congrArg (fun z => [Value.int .i64 z]) hw) ⟨i + 1, p9, l9, c9, rfl, by omega, rfl, ?_, ((s5.trans s57).trans s8).trans s9⟩
          rw [hfold]
          exact m9
        · have g3 := of_decide_eq_false g3
          have e8 : selfF v t.1 st5 = st5 := if_neg g3
          rw [← e8] at m7
          refine rest_ok ih lo hs m7 co7 g8 hu8 hi8 hv hwn ha7 hap b7 (i : Int) ?_
          intro h9 p9 l9 c9 m9 s9
          refine again_mk (cs := [(false, [.int .i64])]) (((i + 1 : Nat) : Int), ()) (e.x.terms.length - (i + 1)) rfl (by omega) (congrArg (fun z => [Value.int .i64 z]) hw) ⟨i + 1, p9, l9, c9, rfl, by omega, rfl, ?_, (s5.trans s57).trans s9⟩
          rw [hfold]
          exact m9
    · have g1 := of_decide_eq_false g1
      have hii := hfin (by omega)
      rw [hii] at m5 g5 hpre5 hi5 hn5
      generalize hst5 : (succL (linE es) v).foldl (stepF (ownE es) (visitF (ownE es) (succL (linE es)) f) v) (openF v st) = st5 at m5 g5 hpre5 hi5 hn5 hvis
      refine loads_box co5.bL (some r.gL, ()) rfl ?_
      dsimp only [flat, unc, unc1, List.nil_append, List.cons_append]
      refine m5.lookL v ?_
      refine loads_box co5.bN (some r.gN, ()) rfl ?_
      dsimp only [flat, unc, unc1, List.nil_append, List.cons_append]
      refine m5.lookN v ?_
      refine cond_mk (fun g2 => ?_) (fun g2 => ?_)
      · have g2 : lwV st5 v < nmV st5 v := by have := of_decide_eq_true g2; unfold lwV nmV; omega
        rw [if_pos g2] at hvis
        refine ⟨rfl, p5, l5, c5, ?_, s5⟩
        rw [hvis]
        exact m5
      · have g2 : ¬ lwV st5 v < nmV st5 v := by have := of_decide_eq_false g2; unfold lwV nmV; omega
        rw [if_neg g2] at hvis
        have hl5 : l5 = st5.way.length := by rw [m5.w.1, List.length_map]
        have hw5 := g5.way
        have hc5 : st5.cnt ≤ es.length := by have := g5.sum; omega
        have hvw : v ∈ st5.way := hpre5.subset (by simp)
        have hpk : popK v st5 < st5.way.length := by
          unfold popK
          rw [List.findIdx_lt_length]
          exact ⟨v, hvw, by simp⟩
        refine loads_box m5.bW ((p5, l5, c5), ()) rfl ?_
        dsimp only [flat, unc, unc1, List.nil_append, List.cons_append]
        refine call_int (index_hc m5.w v hvw (by omega)) ?_
        refine loads_box m5.bW ((p5, l5, c5), ()) rfl ?_
        dsimp only [flat, unc, unc1, List.nil_append, List.cons_append]
        have hcap := m5.w.le_cap
        have hpk' : (st5.way.findIdx fun x => decide (v = x)) = popK v st5 := rfl
        rw [hpk']
        refine need_of ⟨by omega, by omega, by omega⟩ ?_
        refine pop_ok lo hs m5 co5 hi5 g5 (by omega) (by omega) ?_
        intro h6 p6 l6 c6 m6 s6
        refine ⟨rfl, p6, l6, c6, ?_, s5.trans s6⟩
        rw [hvis]
        exact m6
end
end Go.Sx

set_option linter.unusedVariables false
set_option maxRecDepth 100000
namespace Go.Sx
open Go.Proofs
theorem InN.top {names : List ByteArray} {own : ByteArray → Bool} (hown : ∀ s, own s = true → s ∈ names) (succ : ByteArray → List ByteArray) (f : Nat) : ∀ (l : List ByteArray) (st : TS), (∀ s, s ∈ l → s ∈ names) → InN names st → InN names (l.foldl (topF own succ f) st)
  | [], st, hl, hi => hi
  | w :: l, st, hl, hi => by
    rw [List.foldl_cons]
    refine InN.top hown succ f l _ (fun s hs => hl s (List.mem_cons_of_mem _ hs)) ?_
    unfold topF
    split
    · exact InN.visit hown succ f w st hi (hl w (by simp))
    · exact hi
theorem turning_hc {h : Hp} {p : Option Addr} {l c : Nat} {es : List EqM} (v : VwE h p l es) (eo : EqsOk es) (hp : ∀ i, i ∈ blkOf p → i < h.size) :
    HC Try.prog 25 #[.slice p l c] h fun w h' => (∃ g n, w = .map (some g) ∧ MapF eB h' g (turnF (ownE es) (succL (linE es)) (namesE es)).back n ∧ h.size ≤ g) ∧ Ext h h' := by
  refine hcr_of (args := [.slice p l c]) mixed Try.func25 (by kernel_rfl) (t_equ_turning_eq p l c) ?_
  unfold t_equ_turning
  have hown : ∀ s, ownE es s = true → s ∈ namesE es := fun s => (ownE_mem es s).1
  have hnl : (namesE es).length = es.length := by unfold namesE; rw [List.length_map]
  have hll := v.len
  have hlen := eo.len
  refine newB ?_
  intro h1 b1 e1 z1
  refine loads_box b1 ((p, l, c), ()) rfl ?_
  dsimp only [flat, unc, unc1, List.nil_append, List.cons_append]
  refine call_of (numbers_hc (v.keep e1) eo.len eo.nodup eo.sz) ?_
  rintro _ h2 ⟨⟨gA, rfl, mA, hgA⟩, e2⟩
  refine ⟨(some gA, ()), rfl, ?_⟩
  dsimp only [flat, unc, unc1, List.nil_append, List.cons_append]
  have b2 := b1.keep e2 (by simp)
  have hgA2 := mA.lt
  refine newB ?_
  intro h3 b3 e3 z3
  refine stores_of b3 rfl (by simp) ?_
  intro h4 b4 k4 z4
  have b4 : Box h4 h2.size 65 [.map (some gA)] := b4
  have e24 : Ext h2 h4 := Ch.trans e3 k4 (fun j hj hl => by simp at hj; omega)
  refine makeF (en := eB) ?_
  intro h5 m5 e5 z5
  refine newB ?_
  intro h6 b6 e6 z6
  refine stores_of b6 rfl (by simp) ?_
  intro h7 b7 k7 z7
  have b7 : Box h7 h5.size 32 [.map (some h4.size)] := b7
  have e57 : Ext h5 h7 := Ch.trans e6 k7 (fun j hj hl => by simp at hj; omega)
  refine makeF (en := eI) ?_
  intro h8 m8 e8 z8
  refine makeF (en := eI) ?_
  intro h9 m9 e9 z9
  refine newB ?_
  intro h10 b10 e10 z10
  refine newB ?_
  intro h11 b11 e11 z11
  refine stores_of (b10.keep e11 (by simp)) rfl (by simp) ?_
  intro h12 b12 k12 z12
  have b12 : Box h12 h9.size 65 [.map (some h7.size)] := b12
  refine stores_of (b11.keep k12 (by simp; omega)) rfl (by simp) ?_
  intro h13 b13 k13 z13
  have b13 : Box h13 h10.size 65 [.map (some h8.size)] := b13
  have e913 : Ext h9 h13 := Ch.trans ((Ch.trans (Ext.trans e10 e11) k12 (fun j hj hl => by simp at hj; omega)) : Ext h9 h12) k13 (fun j hj hl => by simp at hj; omega)
  refine newB ?_
  intro h14 b14 e14 z14
  refine makeF (en := eB) ?_
  intro h15 m15 e15 z15
  refine newB ?_
  intro h16 b16 e16 z16
  refine stores_of b16 rfl (by simp) ?_
  intro h17 b17 k17 z17
  have b17 : Box h17 h15.size 32 [.map (some h14.size)] := b17
  have e1517 : Ext h15 h17 := Ch.trans e16 k17 (fun j hj hl => by simp at hj; omega)
  refine newB ?_
  intro h18 b18 e18 z18
  refine stores_of b18 rfl (by simp) ?_
  intro h19 b19 k19 z19
  have e1719 : Ext h17 h19 := Ch.trans e18 k19 (fun j hj hl => by simp at hj; omega)
  have e1519 := e1517.trans e1719
  have e1319 : Ext h13 h19 := (e14.trans e15).trans e1519
  have e919 := e913.trans e1319
  have e719 : Ext h7 h19 := (e8.trans e9).trans e919
  have e419 : Ext h4 h19 := (e5.trans e57).trans e719
  have e219 := e24.trans e419
  have e019 : Ext h h19 := (e1.trans e2).trans e219
  have hz13 : h13.size = h9.size + 2 := by omega
  have hz9 : h9.size = h7.size + 2 := by omega
  have hz7 : h7.size = h4.size + 2 := by omega
  have hz4 : h4.size = h2.size + 1 := by omega
  generalize hr : (⟨h.size, gA, h2.size, h4.size, h5.size, h7.size, h8.size, h9.size, h10.size, h13.size, h14.size, h15.size, h17.size⟩ : TF) = r
  have ho : r.ord := by
    subst hr
    unfold TF.ord
    dsimp only
    omega
  have co : CoM r h19 es p l c := by
    subst hr
    refine ⟨(b2.keep e219 (by simp)), b4.keep e419 (by simp), ⟨_, mA.keep e219 (by simp)⟩, ?_, (b12.keep k13 (by simp; omega)).keep e1319 (by simp), b13.keep e1319 (by simp), b17.keep e1719 (by simp), b7.keep e719 (by simp), v.keep e019⟩
    exact b19
  have st : StM r h19 ts0 none 0 0 := by
    subst hr
    exact ⟨m8.keep (e9.trans e919) (by simp), ⟨0, m9.keep e919 (by simp)⟩, ⟨0, m15.keep e1519 (by simp)⟩, ⟨0, m5.keep ((e57.trans e719)) (by simp)⟩, b14.keep (e15.trans e1519) (by simp), SL.nil _ _ _ _⟩
  have lo : LowE r es p := by
    subst hr
    exact ⟨ho, hp, fun e he hne i hi => (v.inn e he).ofLt hne i hi⟩
  have hrE : r.E = h.size := by subst hr; rfl
  have hbN : r.N = h9.size := by subst hr; rfl
  have hbV : r.V = h17.size := by subst hr; rfl
  have hbB : r.B = h5.size := by subst hr; rfl
  rw [show (⟨h9.size, 0, none⟩ : Addr) = bx r.N by rw [hbN], show (⟨h17.size, 0, none⟩ : Addr) = bx r.V by rw [hbV], show (⟨h5.size, 0, none⟩ : Addr) = bx r.B by rw [hbB], show (⟨h.size, 0, none⟩ : Addr) = bx r.E by rw [hrE]]
  refine loads_box co.bE ((p, l, c), ()) rfl ?_
  dsimp only [flat, unc, unc1, List.nil_append, List.cons_append]
  refine loop_of (cs := [(false, [.int .i64])]) (fun x w h' => ∃ (i : Nat) (p' : Option Addr) (l' c' : Nat), x.1 = (i : Int) ∧ i ≤ es.length ∧ w = es.length - i ∧ StM r h' (((namesE es).take i).foldl (topF (ownE es) (succL (linE es)) (namesE es).length) ts0) p' l' c' ∧ Stp r none h19 p' h')
    ((0 : Int), ()) es.length rfl ⟨0, none, 0, 0, rfl, by omega, by omega, st, Stp.refl _ _ _⟩ ?_
  rintro ⟨n20, ⟨⟩⟩ w h20 ⟨i, p20, l20, c20, hi0, hile, rfl, m20, s20⟩
  simp only at hi0
  subst hi0
  dsimp only [flat, unc, unc1, List.nil_append, List.cons_append]
  have co20 := s20.co lo st co
  refine cond_mk (fun g1 => ?_) (fun g1 => ?_)
  · have g1 := of_decide_eq_true g1
    have hilt : i < es.length := by omega
    refine need_of ⟨by omega, by omega⟩ ?_
    obtain ⟨a2, ha2, hc2⟩ := co20.vw.cells i hilt
    refine osome_mk ha2 ?_
    rw [show Int.toNat (i : Int) = i by omega]
    have t20 := top_all (own := ownE es) (succ := succL (linE es)) eo.nodup hown ((namesE es).take i) [] ts0 (fun s hs => List.mem_of_mem_take hs) (top0 _)
    have i20 := InN.top hown (succL (linE es)) (namesE es).length ((namesE es).take i) ts0 (fun s hs => List.mem_of_mem_take hs) (fun s hs => (hs rfl).elim)
    have htk : (namesE es).take (i + 1) = (namesE es).take i ++ [es[i].name] := by
      rw [List.take_succ_eq_append_getElem (by omega)]
      unfold namesE
      rw [List.getElem_map]
    have hmem : es[i].name ∈ namesE es := List.mem_map_of_mem (List.getElem_mem hilt)
    generalize es[i] = e at hc2 htk hmem
    have hfold : ((namesE es).take (i + 1)).foldl (topF (ownE es) (succL (linE es)) (namesE es).length) ts0 = topF (ownE es) (succL (linE es)) (namesE es).length (((namesE es).take i).foldl (topF (ownE es) (succL (linE es)) (namesE es).length) ts0) e.name := by
      rw [htk, List.foldl_append]; rfl
    generalize ((namesE es).take i).foldl (topF (ownE es) (succL (linE es)) (namesE es).length) ts0 = st20 at m20 t20 i20 hfold
    refine loads_of (e.name, (e.p, e.l, e.c), (e.x.num : Int), ()) hc2 ?_
    dsimp only [flat, unc, unc1, List.nil_append, List.cons_append]
    refine newB ?_
    intro h21 b21 e21 z21
    refine stores_of b21 rfl (by simp) ?_
    intro h22 b22 k22 z22
    have b22 : Box h22 h20.size 38 [.string e.name, .slice e.p e.l e.c, .int .u32 e.x.num] := b22
    have e2022 : Ext h20 h22 := Ch.trans e21 k22 (fun j hj hl => by simp at hj; omega)
    have co22 := co20.keepW lo e2022 (by simp)
    have m22 := m20.keep e2022
    have s22 : Stp r none h19 p20 h22 := s20.trans (Stp.ext e2022)
    have hw : IntKind.wrap .i64 ((i : Int) + 1) = ((i + 1 : Nat) : Int) := by rw [wrap_i64 (by omega) (by omega)]; omega
    refine loads_box co22.bN (some r.gN, ()) rfl ?_
    dsimp only [flat, unc, unc1, List.nil_append, List.cons_append]
    refine loads_box b22 (e.name, ()) rfl ?_
    dsimp only [flat, unc, unc1, List.nil_append, List.cons_append]
    refine m22.lookN e.name ?_
    refine cond_mk (fun g2 => ?_) (fun g2 => ?_)
    · have g2 : (st20.num e.name).getD 0 = 0 := by have := of_decide_eq_true g2; omega
      refine loads_box co22.bV (.func (.func 40) #[] r.caps.toArray, ()) rfl ?_
      dsimp only [flat, unc, unc1, List.nil_append, List.cons_append]
      refine loads_box b22 (e.name, ()) rfl ?_
      dsimp only [flat, unc, unc1, List.nil_append, List.cons_append]
      refine callv_of (cap := r.caps) hb40 rfl (visit_ok eo lo (namesE es).length e.name st20 h22 p20 l20 c20 m22 co22 t20.good hmem (t20.good.none g2) (List.length_filter_le _ _) i20) ?_
      rintro _ h23 ⟨rfl, p23, l23, c23, m23, s23⟩
      refine ⟨(), rfl, ?_⟩
      refine again_mk (cs := [(false, [.int .i64])]) (((i + 1 : Nat) : Int), ()) (es.length - (i + 1)) rfl (by omega) (congrArg (fun z => [Value.int .i64 z]) hw) ⟨i + 1, p23, l23, c23, rfl, by omega, rfl, ?_, s22.trans s23⟩
      rw [hfold]
      unfold topF
      rw [if_pos g2]
      exact m23
    · have g2 : ¬ (st20.num e.name).getD 0 = 0 := by
        intro k
        rw [k] at g2
        simp at g2
      refine again_mk (cs := [(false, [.int .i64])]) (((i + 1 : Nat) : Int), ()) (es.length - (i + 1)) rfl (by omega) (congrArg (fun z => [Value.int .i64 z]) hw) ⟨i + 1, p20, l20, c20, rfl, by omega, rfl, ?_, s22⟩
      rw [hfold]
      unfold topF
      rw [if_neg g2]
      exact m22
  · have g1 := of_decide_eq_false g1
    have htk : (namesE es).take i = namesE es := List.take_of_length_le (by omega)
    rw [htk] at m20
    refine loads_box co20.bB (some r.gB, ()) rfl ?_
    dsimp only [flat, unc, unc1, List.nil_append, List.cons_append]
    obtain ⟨n3, mB⟩ := m20.mB
    have o' := ho
    unfold TF.ord at o'
    refine ⟨⟨r.gB, n3, rfl, mB, by omega⟩, Ch.trans e019 s20.ch fun j hj hl => ?_⟩
    rw [mem_wsV] at hj
    simp [blkOf] at hj
    omega
end Go.Sx

set_option linter.unusedVariables false
set_option maxRecDepth 100000
namespace Go.Sx
open Go.Proofs Go.Sort
/-- Texts sorted. -/
def sortB (xs : List ByteArray) : List ByteArray := ((xs.map (·.data.toList)).mergeSort fun x y => decide (x ≤ y)).map fun k => ⟨k.toArray⟩
theorem putCells_mid (pre mid rest : List Value) (d : Array (List UInt8)) (hd : d.size = mid.length) : putCells encStr pre.length d (pre ++ (mid ++ rest)).toArray = (pre ++ (d.toList.map encStr ++ rest)).toArray := by
  apply Array.ext_getElem?
  intro k
  unfold putCells
  rw [Array.getElem?_mapIdx]
  simp only [List.getElem?_toArray]
  by_cases h1 : k < pre.length
  · rw [List.getElem?_append_left h1, List.getElem?_append_left h1, List.getElem?_eq_getElem h1, Option.map_some, if_neg (by omega)]
  · rw [List.getElem?_append_right (l₁ := pre) (l₂ := mid ++ rest) (by omega), List.getElem?_append_right (l₁ := pre) (l₂ := d.toList.map encStr ++ rest) (by omega)]
    by_cases h2 : k - pre.length < mid.length
    · rw [List.getElem?_append_left (l₁ := mid) h2, List.getElem?_append_left (l₁ := d.toList.map encStr) (by simp; omega), List.getElem?_eq_getElem h2, Option.map_some, if_pos (by omega), List.getElem?_map]
      rw [getElem!_pos d (k - pre.length) (by omega), Array.getElem?_toList, Array.getElem?_eq_getElem (by omega)]
      rfl
    · rw [List.getElem?_append_right (l₁ := mid) (by omega), List.getElem?_append_right (l₁ := d.toList.map encStr) (by simp; omega)]
      have e : (d.toList.map encStr).length = mid.length := by simp [hd]
      rw [e]
      cases hr : rest[k - pre.length - mid.length]? with
      | none => rfl
      | some v => rw [Option.map_some, if_neg (by omega)]
theorem flat_enS (xs : List ByteArray) : (xs.map enS).flatten = xs.map Value.string := by
  induction xs with
  | nil => rfl
  | cons x xs ih => rw [List.map_cons, List.flatten_cons, ih]; rfl
theorem sort_hc {h : Hp} {b : Nat} {p : Option Addr} {l c : Nat} {xs : List ByteArray} (s : SL h b 9 1 p l c (xs.map enS)) (hl : l ≤ 2 ^ 40) :
    HC Try.prog 30 #[.slice p l c] h fun w h' => w = .tuple #[] ∧ SL h' b 9 1 p l c ((sortB xs).map enS) ∧ Ch (blkOf p) h h' := by
  have hll : l = xs.length := by rw [s.1, List.length_map]
  have hnil : xs = [] → HC Try.prog 30 #[.slice p l c] h fun w h' => w = .tuple #[] ∧ SL h' b 9 1 p l c ((sortB xs).map enS) ∧ Ch (blkOf p) h h' := by
    intro hx
    subst hx
    have hl0 : l = 0 := hll
    subst hl0
    intro W hW
    refine (AnyM.slices_Sort_string_none Try.sort113 p c W).mono ?_
    rintro e w' ⟨rfl, rfl⟩
    have e0 : sortB [] = [] := by simp [sortB]
    exact ⟨_, rfl, SameO.refl _, rfl, by rw [hW, e0]; exact s, by rw [hW]; exact Ch.refl _ _⟩
  cases p with
  | none =>
    have : xs = [] := by have := s.2.2.2; simpa using this
    exact hnil this
  | some a =>
    obtain ⟨g, pre, rest, rfl, hbg, hlc, hbox, hr⟩ := s.2.2
    intro W hW
    subst hW
    rw [flat_enS] at hbox
    have hH : Holds encStr W g pre.length (xs.map (·.data.toList)).toArray := by
      intro j hj
      have hj : j < xs.length := by simpa using hj
      refine ⟨?_, hbox.frozen⟩
      rw [cell_heap, hbox.cell, List.getElem?_append_right (by omega), show pre.length + j - pre.length = j by omega, List.getElem?_append_left (by simpa using hj), List.getElem?_map, List.getElem?_eq_getElem hj, getElem!_pos _ j (by simpa using hj)]
      simp [encStr]
    have hgl := hbox.lt
    have hc := AnyM.slices_Sort_string Try.sort113 g pre.length c (xs.map (·.data.toList)) W hH hgl (by simp; omega)
    rw [List.length_map, ← hll] at hc
    refine Calls.mono hc ?_
    rintro e w' ⟨rfl, n, os, rfl⟩
    have hheap : (Go.Sort.grow (Go.Sort.putRow encStr (Go.Sort.ahead W n) g pre.length ((xs.map (·.data.toList)).mergeSort fun x y => decide (x ≤ y)).toArray) os).heap = (W.heap.modify g (onCells (putCells encStr pre.length ((xs.map (·.data.toList)).mergeSort fun x y => decide (x ≤ y)).toArray))) ++ os := rfl
    refine ⟨_, rfl, ⟨rfl, rfl, rfl⟩, rfl, ?_, ?_⟩
    · rw [hheap]
      refine ⟨by rw [List.length_map]; unfold sortB; rw [List.length_map, List.length_mergeSort, List.length_map]; exact hll, fun x hx => ?_, g, pre, rest, rfl, hbg, hlc, ?_, hr⟩
      · obtain ⟨y, _, rfl⟩ := List.mem_map.1 hx
        rfl
      · unfold Box
        unfold Box at hbox
        rw [Array.getElem?_append, if_pos (by simpa using hgl), Array.getElem?_modify, if_pos rfl, hbox]
        show some (Obj.cells (putCells encStr pre.length _ (pre ++ (xs.map Value.string ++ rest)).toArray) 9 (0, 0)) = _
        have e : ((xs.map (·.data.toList)).mergeSort fun x y => decide (x ≤ y)).toArray.toList.map encStr = (sortB xs).map Value.string := by
          unfold sortB
          rw [List.map_map]
          rfl
        rw [putCells_mid pre (xs.map Value.string) rest _ (by simp [List.length_mergeSort]), flat_enS, e]
    · rw [hheap]
      refine ⟨by simp, fun i hi hn => ?_⟩
      rw [Array.getElem?_append, if_pos (by simpa using hi), Array.getElem?_modify, if_neg]
      intro e
      subst e
      exact hn (by simp [blkOf])
/-! Ranges over maps. -/
section
variable {P : Program} {h : Hp}
theorem range_of {t a b : TypeId} (ht : P.underlying t = some (.map a b)) {g : Nat} {es : Array MapEntry} {clock : Nat} (hg : h[g]? = some (.map es clock)) (K : Value → Hp → Prop) (hk : K (.pointer (some ⟨h.size, 0, none⟩)) (h.push (.mapIter (some g) clock #[] clock))) : semW P (Instr.range t (.map (some g))) h K := by
  unfold Instr.range
  rw [semW_bind', semW_underlying ht]
  simp only
  rw [semW_bind']
  refine semW_getObj hg (by simp) _ ?_
  exact hk
theorem next_of {ty : TypeId} {it g : Nat} {es : Array MapEntry} {clock : Nat} {seen : Array Nat} (hi : h[it]? = some (.mapIter (some g) clock seen clock)) (hg : h[g]? = some (.map es clock)) (hs : Go.MapKept.Stamped es clock) (K : Value → Hp → Prop)
    (h0 : (∀ e, e ∈ es.toList → e.born ∈ seen) → K (.tuple #[.bool false]) h) (h1 : ∀ e, e ∈ es.toList → e.born ∉ seen → K (.tuple #[.bool true, e.key, e.val]) (h.setIfInBounds it (.mapIter (some g) clock (seen.push e.born) clock))) :
    semW P (Instr.next (.pointer (some ⟨it, 0, none⟩)) false ty) h K := by
  unfold Instr.next
  simp only
  rw [semW_bind']
  refine semW_getObj hi (by simp) _ ?_
  simp only
  rw [semW_bind']
  refine semW_getObj hg (by simp) _ ?_
  simp only
  have hb := hs.1
  have hno : (!seen.isEmpty && !es.isEmpty && es.all fun x => decide (x.born ≥ clock)) = false := by
    cases he : es.isEmpty with
    | true => simp
    | false =>
      have : ∃ x, x ∈ es.toList := by
        cases hl : es.toList with
        | nil =>
          exfalso
          have : es = #[] := by apply Array.toList_inj.1; rw [hl]
          subst this; simp at he
        | cons x l => exact ⟨x, by simp⟩
      obtain ⟨x, hx⟩ := this
      have hlt := hb x hx
      have : (es.all fun x => decide (x.born ≥ clock)) = false := by
        rw [Array.all_eq_false]
        obtain ⟨i, hi, e⟩ := List.getElem_of_mem hx
        refine ⟨i, by simpa using hi, ?_⟩
        simp at e ⊢
        rw [e]; omega
      rw [this]; simp
  rw [hno, if_neg (by simp)]
  have hl1 : ∀ x, x ∈ es.filter (fun e => !seen.contains e.born) → x ∈ es.toList ∧ x.born ∉ seen := by
    intro x hx
    obtain ⟨a, b⟩ := Array.mem_filter.1 hx
    exact ⟨by simpa using a, by simpa using b⟩
  have hl2 : ∀ x, x ∈ es.toList → x.born ∉ seen → x ∈ es.filter (fun e => !seen.contains e.born) := by
    intro x hx hn
    exact Array.mem_filter.2 ⟨by simpa using hx, by simpa using hn⟩
  generalize es.filter (fun e => !seen.contains e.born) = lf at hl1 hl2
  have f1 : lf.filter (fun x => decide (x.born < clock)) = lf := by
    rw [Array.filter_eq_self]
    intro x hx
    exact decide_eq_true (hb x (hl1 x hx).1)
  have f2 : lf.filter (fun x => decide (x.born ≥ clock)) = #[] := by
    rw [Array.filter_eq_empty_iff]
    intro x hx
    have := hb x (hl1 x hx).1
    simp; omega
  rw [f1, f2, Array.append_empty]
  have key : ∀ i, i < ((if lf.isEmpty = true then #[none] else #[]) ++ lf.map some).size → semW P (match ((if lf.isEmpty = true then #[none] else #[]) ++ lf.map some)[i]? with
      | some (some e) => do
        setObj it (Obj.mapIter (some g) clock (seen.push e.born) clock)
        pure (Value.tuple #[Value.bool true, e.key, e.val])
      | some none => pure (Value.tuple #[Value.bool false])
      | none => stuck "Next: no such candidate") h K := by
    intro i hi0
    cases he : lf.isEmpty with
    | true =>
      have : lf = #[] := by simpa using he
      subst this
      rw [if_pos rfl] at *
      simp at hi0
      subst hi0
      have e0 : (#[none] ++ Array.map some (#[] : Array MapEntry))[0]? = some none := by simp
      rw [e0]
      refine h0 fun e he => ?_
      apply Classical.byContradiction
      intro hn
      have := hl2 e he hn
      simp at this
    | false =>
      rw [he] at hi0
      rw [if_neg (by simp)] at *
      simp only [Array.empty_append, Array.size_map] at hi0 ⊢
      rw [Array.getElem?_map, Array.getElem?_eq_getElem hi0]
      simp only [Option.map_some]
      obtain ⟨a, b⟩ := hl1 lf[i] (Array.getElem_mem hi0)
      rw [semW_bind']
      exact semW_setObj hi (by simp) _ (h1 _ a b)
  have hsz : 0 < ((if lf.isEmpty = true then #[none] else #[]) ++ lf.map some).size := by
    cases he : lf.isEmpty with
    | true => rw [if_pos rfl]; simp; omega
    | false =>
      rw [if_neg (by simp)]
      simp only [Array.empty_append, Array.size_map]
      rcases Nat.eq_zero_or_pos lf.size with h | h
      · have : lf = #[] := Array.eq_empty_of_size_eq_zero h
        subst this; simp at he
      · exact h
  generalize ((if lf.isEmpty = true then #[none] else #[]) ++ lf.map some) = cand at key hsz ⊢
  rw [semW_bind']
  show semW P (.choose (.mapNext _) .pure) h _
  simp only [semW]
  split
  · exact key 0 hsz
  · intro t
    exact key _ (Nat.mod_lt _ hsz)
theorem entry_of {it g : Nat} {es : Array MapEntry} {clock since : Nat} {seen : Array Nat} {e : MapEntry} (hi : h[it]? = some (.mapIter (some g) since (seen.push e.born) clock)) (hg : h[g]? = some (.map es clock)) (hs : Go.MapKept.Stamped es clock) (he : e ∈ es.toList) (K : Value → Hp → Prop) (hk : K (.tuple #[e.key, e.val]) h) :
    semW P (Instr.entry (.pointer (some ⟨it, 0, none⟩))) h K := by
  have hf : es.find? (fun x => x.born == e.born) = some e := by
    rw [← Array.find?_toList]
    have hn := hs.2.1
    generalize es.toList = l at he hn
    induction l with
    | nil => simp at he
    | cons x l ih =>
      rw [List.map_cons, List.nodup_cons] at hn
      rcases List.mem_cons.1 he with h | h
      · subst h; simp
      · rw [List.find?_cons, ih h hn.2]
        have : (x.born == e.born) = false := by
          rw [beq_eq_false_iff_ne]
          intro k
          exact hn.1 (by rw [k]; exact List.mem_map_of_mem h)
        rw [this]
  unfold Instr.entry
  simp only
  rw [semW_bind']
  refine semW_getObj hi (by simp) _ ?_
  simp only [Array.back?_push]
  rw [semW_bind']
  refine semW_getObj hg (by simp) _ ?_
  simp only [bne_self_eq_false, Bool.false_eq_true, if_false]
  rw [hf]
  exact hk
end
/-! equ.Cycle. -/
abbrev ZE := (ByteArray × Bool) × Nat
def mkE (z : ZE) : MapEntry := ⟨.string z.1.1, .bool z.1.2, z.2⟩
theorem zip_es : ∀ (es : List MapEntry) (D : List (ByteArray × Bool)), es.map (fun e => (e.key, e.val)) = (vE eB D).map (fun p => (Value.string p.1, p.2)) → ∃ Z : List ZE, es = Z.map mkE ∧ Z.map (·.1) = D
  | [], [], _ => ⟨[], rfl, rfl⟩
  | [], d :: D, h => by simp [vE] at h
  | e :: es, [], h => by simp [vE] at h
  | e :: es, d :: D, h => by
    simp only [vE, List.map_cons, List.cons.injEq, Prod.mk.injEq] at h
    obtain ⟨Z, h1, h2⟩ := zip_es es D (by simpa [vE] using h.2)
    refine ⟨(d, e.born) :: Z, ?_, by rw [List.map_cons, h2]⟩
    rw [List.map_cons, ← h1]
    congr 1
    obtain ⟨k, v, b⟩ := e
    simp only at h
    unfold mkE
    rw [h.1.1, h.1.2]
    rfl
/-- The names that are marked, of some entries. -/
def outZ (Z : List ZE) : List ByteArray := (Z.filter (·.1.2)).map (·.1.1)
theorem outZ_perm {Y Z : List ZE} (h : Y.Perm Z) : (outZ Y).Perm (outZ Z) := (h.filter _).map _
theorem nodup_keys : ∀ (Z : List ZE), (Z.map fun z => (mkE z).key).Nodup → (Z.map (·.1.1)).Nodup
  | [], _ => List.nodup_nil
  | z :: Z, h => by
    rw [List.map_cons, List.nodup_cons] at h ⊢
    refine ⟨fun hm => h.1 ?_, nodup_keys Z h.2⟩
    obtain ⟨y, hy, e⟩ := List.mem_map.1 hm
    exact List.mem_map.2 ⟨y, hy, by unfold mkE; simp only; rw [e]⟩
theorem gE_mem {Z : List ZE} (hn : (Z.map (·.1.1)).Nodup) {s : ByteArray} {b : Bool} : gE (Z.map (·.1)) s = some b ↔ ∃ n, ((s, b), n) ∈ Z := by
  unfold gE
  induction Z with
  | nil => simp
  | cons z Z ih =>
    rw [List.map_cons, List.nodup_cons] at hn
    rw [List.map_cons, List.find?_cons]
    by_cases e : s = z.1.1
    · rw [decide_eq_true e]
      simp only [Option.map_some]
      constructor
      · intro h
        have h := Option.some.inj h
        refine ⟨z.2, ?_⟩
        rw [e, ← h]
        exact List.mem_cons_self
      · rintro ⟨n, hz⟩
        rcases List.mem_cons.1 hz with h | h
        · rw [← h]
        · exact (hn.1 (by rw [← e]; exact List.mem_map_of_mem (f := fun z : ZE => z.1.1) h)).elim
    · rw [decide_eq_false e]
      simp only
      rw [ih hn.2]
      constructor
      · rintro ⟨n, h⟩; exact ⟨n, List.mem_cons_of_mem _ h⟩
      · rintro ⟨n, h⟩
        rcases List.mem_cons.1 h with h | h
        · exact (e (by rw [← h])).elim
        · exact ⟨n, h⟩
theorem sortB_mem (xs : List ByteArray) (s : ByteArray) : s ∈ sortB xs ↔ s ∈ xs := by
  unfold sortB
  rw [List.mem_map]
  constructor
  · rintro ⟨k, hk, rfl⟩
    rw [List.mem_mergeSort, List.mem_map] at hk
    obtain ⟨x, hx, rfl⟩ := hk
    exact hx
  · intro h
    exact ⟨s.data.toList, by rw [List.mem_mergeSort]; exact List.mem_map_of_mem h, rfl⟩
theorem sortB_sorted {xs : List ByteArray} (hn : xs.Nodup) : (sortB xs).Pairwise ltN := by
  unfold sortB
  rw [List.pairwise_map]
  have h1 : (((xs.map (·.data.toList)).mergeSort fun x y => decide (x ≤ y))).Pairwise fun a b => decide (a ≤ b) = true :=
    List.pairwise_mergeSort (fun a b c h k => by simp only [decide_eq_true_eq] at *; exact List.le_trans h k) (fun a b => by simp only [Bool.or_eq_true, decide_eq_true_eq]; exact List.le_total a b) _
  have h2 : ((xs.map (·.data.toList)).mergeSort fun x y => decide (x ≤ y)).Nodup := by
    rw [(List.mergeSort_perm _ _).nodup_iff]
    exact List.pairwise_map.2 (hn.imp fun hne e => hne (baExt e))
  refine (h1.and h2).imp fun {a b} hab => ?_
  obtain ⟨hle, hne⟩ := hab
  have hle : a ≤ b := of_decide_eq_true hle
  apply Classical.byContradiction
  intro hlt
  have hge : ¬ ltN ⟨b.toArray⟩ ⟨a.toArray⟩ := by
    show ¬ (b.toArray.toList : List UInt8) < a.toArray.toList
    simpa using hle
  have := ltN_tri ⟨a.toArray⟩ ⟨b.toArray⟩ hlt hge
  have := congrArg (fun x => x.data.toList) this
  exact hne (by simpa using this)
theorem ltN_uniq : ∀ {xs ys : List ByteArray}, xs.Pairwise ltN → ys.Pairwise ltN → (∀ s, s ∈ xs ↔ s ∈ ys) → xs = ys
  | [], [], _, _, _ => rfl
  | [], y :: ys, _, _, h => by have := (h y).2 (by simp); simp at this
  | x :: xs, [], _, _, h => by have := (h x).1 (by simp); simp at this
  | x :: xs, y :: ys, hx, hy, h => by
    obtain ⟨hx1, hx2⟩ := List.pairwise_cons.1 hx
    obtain ⟨hy1, hy2⟩ := List.pairwise_cons.1 hy
    have e : x = y := by
      rcases List.mem_cons.1 ((h x).1 (by simp)) with k | k
      · exact k
      · rcases List.mem_cons.1 ((h y).2 (by simp)) with k2 | k2
        · exact k2.symm
        · exact (ltN_asymm (hy1 x k) (hx1 y k2)).elim
    subst e
    congr 1
    refine ltN_uniq hx2 hy2 fun s => ⟨fun hs => ?_, fun hs => ?_⟩
    · rcases List.mem_cons.1 ((h s).1 (List.mem_cons_of_mem _ hs)) with k | k
      · exact (ltN_ne (hx1 s hs) k.symm).elim
      · exact k
    · rcases List.mem_cons.1 ((h s).2 (List.mem_cons_of_mem _ hs)) with k | k
      · exact (ltN_ne (hy1 s hs) k.symm).elim
      · exact k
theorem cycle_hc {h : Hp} {p : Option Addr} {l c : Nat} {es : List EqM} (v : VwE h p l es) (eo : EqsOk es) (hp : ∀ i, i ∈ blkOf p → i < h.size) :
    HC Try.prog 10 #[.slice p l c] h fun w h' => (∃ (p' : Option Addr) (l' c' : Nat) (ks : List ByteArray), w = .slice p' l' c' ∧ SL h' h.size 9 1 p' l' c' (ks.map enS) ∧ (∀ s, s ∈ ks ↔ OnC (Edge (ownE es) (succL (linE es))) s) ∧ ks.Pairwise ltN) ∧ Ext h h' := by
  refine hcr_of (args := [.slice p l c]) mixed Try.func10 (by kernel_rfl) (t_equ_Cycle_eq p l c) ?_
  unfold t_equ_Cycle
  have hown : ∀ s, ownE es s = true → s ∈ namesE es := fun s => (ownE_mem es s).1
  have hnl : (namesE es).length = es.length := by unfold namesE; rw [List.length_map]
  have hlen := eo.len
  refine call_of (turning_hc (c := c) v eo hp) ?_
  rintro _ h1 ⟨⟨g, n, rfl, mB, hg⟩, e1⟩
  refine ⟨(some g, ()), rfl, ?_⟩
  dsimp only [flat, unc, unc1, List.nil_append, List.cons_append]
  obtain ⟨D, ⟨ms, clock, hgm, hme, hst, hsz⟩, hD, hDn⟩ := mB
  obtain ⟨Z, hZ, hZD⟩ := zip_es ms.toList D hme
  have hgl := lt_of_get hgm
  have hkn : (Z.map (·.1.1)).Nodup := by
    refine nodup_keys Z ?_
    have := hst.2.2
    rw [hZ, List.map_map] at this
    exact this
  have hbn : (Z.map (·.2)).Nodup := by
    have := hst.2.1
    rw [hZ, List.map_map] at this
    exact this
  -- each key is a name
  have hback := turnF_back (succ := succL (linE es)) eo.nodup hown
  have hout : ∀ s, s ∈ outZ Z ↔ OnC (Edge (ownE es) (succL (linE es))) s := by
    intro s
    rw [← hback s]
    unfold outZ
    rw [List.mem_map]
    constructor
    · rintro ⟨z, hz, rfl⟩
      obtain ⟨hz, hb⟩ := List.mem_filter.1 hz
      have : gE (Z.map (·.1)) z.1.1 = some true := (gE_mem hkn).2 ⟨z.2, by rw [← hb]; exact hz⟩
      rw [hZD, hD] at this
      rw [this]; rfl
    · intro hb
      have : gE (Z.map (·.1)) s = some true := by
        rw [hZD, hD]
        cases hh : (turnF (ownE es) (succL (linE es)) (namesE es)).back s with
        | none => rw [hh] at hb; cases hb
        | some b => rw [hh] at hb; simp at hb; rw [hb]
      obtain ⟨n, hz⟩ := (gE_mem hkn).1 this
      exact ⟨_, List.mem_filter.2 ⟨hz, rfl⟩, rfl⟩
  have houtn : (outZ Z).Nodup := by
    unfold outZ
    exact (List.filter_sublist.map _).nodup hkn
  have houtl : (outZ Z).length ≤ es.length := by
    rw [← hnl]
    exact nodup_le _ _ houtn fun s hs => hown s ((hout s).1 hs).isOwn
  refine range_of (und32) hgm _ ?_
  refine ⟨(some ⟨h1.size, 0, none⟩, ()), rfl, ?_⟩
  dsimp only [flat, unc, unc1, List.nil_append, List.cons_append]
  have e2 : Ext h1 (h1.push (.mapIter (some g) clock #[] clock)) := Ext.push _ _
  have hi2 : (h1.push (.mapIter (some g) clock #[] clock))[h1.size]? = some (.mapIter (some g) clock #[] clock) := by rw [Array.getElem?_push_size]
  have hz2 : (h1.push (.mapIter (some g) clock #[] clock)).size = h1.size + 1 := by simp
  generalize h1.push (.mapIter (some g) clock #[] clock) = h2 at e2 hi2 hz2
  have hz1 := e1.size
  refine loop_of (cs := [(false, [.slice 0])]) (fun x w h' => ∃ (dn td : List ZE) (p' : Option Addr) (l' c' : Nat), x.1 = (p', l', c') ∧ (dn ++ td).Perm Z ∧ w = td.length ∧ h'[h1.size]? = some (.mapIter (some g) clock (dn.map (·.2)).toArray clock) ∧ SL h' (h1.size + 1) 9 1 p' l' c' ((outZ dn).map enS) ∧ Ch [h1.size] h2 h')
    ((none, 0, 0), ()) Z.length rfl ⟨[], Z, none, 0, 0, rfl, List.Perm.refl _, rfl, hi2, SL.nil _ _ _ _, Ch.refl _ _⟩ ?_
  rintro ⟨⟨p3, l4, l5⟩, ⟨⟩⟩ w h3 ⟨dn, td, p', l', c', hx, hperm, rfl, hi3, s3, k3⟩
  simp only at hx
  obtain ⟨rfl, rfl, rfl⟩ := hx
  dsimp only [flat, unc, unc1, List.nil_append, List.cons_append]
  have hgm3 : h3[g]? = some (.map ms clock) := k3.get (e2.get hgm (by simp)) (by simp; omega)
  have hz3 := k3.size
  have hall : ∀ z, z ∈ Z → z ∈ dn ∨ z ∈ td := fun z hz => List.mem_append.1 (hperm.mem_iff.2 hz)
  have hbn2 : (dn.map (·.2) ++ td.map (·.2)).Nodup := by
    rw [← List.map_append, (hperm.map _).nodup_iff]
    exact hbn
  refine next_of hi3 hgm3 hst _ (fun hov => ?_) (fun e he hns => ?_)
  · left
    refine ⟨rfl, ?_⟩
    have htd : td = [] := by
      cases td with
      | nil => rfl
      | cons z td =>
        exfalso
        have hz : z ∈ Z := hperm.mem_iff.1 (by simp)
        have := hov (mkE z) (by rw [hZ]; exact List.mem_map_of_mem hz)
        have : z.2 ∈ dn.map (·.2) := by simpa [mkE] using this
        rw [List.nodup_append] at hbn2
        exact hbn2.2.2 _ this _ (by simp) rfl
    subst htd
    rw [List.append_nil] at hperm
    have hpo := outZ_perm hperm
    have hll : l4 = (outZ dn).length := by rw [s3.1, List.length_map]
    have := hpo.length_eq
    refine call_of (sort_hc s3 (by omega)) ?_
    rintro _ h4 ⟨rfl, s4, k4⟩
    refine ⟨(), rfl, ?_⟩
    refine ⟨⟨p3, l4, l5, sortB (outZ dn), rfl, s4.mono (by omega), fun s => ?_, ?_⟩, ?_⟩
    · rw [sortB_mem, hpo.mem_iff, hout]
    · exact sortB_sorted (hpo.nodup_iff.2 houtn)
    · have e12 := e1.trans e2
      have k13 : Ch [h1.size] h h3 := Ch.trans (e12.mono (by simp)) k3 (fun j hj _ => hj)
      refine Ch.trans (k13.mono (by simp; omega)) k4 (fun j hj hl => ?_)
      have := (s3.blk hj).1
      omega
  · right
    rw [hZ] at he
    obtain ⟨z, hz, rfl⟩ := List.mem_map.1 he
    refine ⟨(z.1.1, z.1.2, ()), rfl, ?_⟩
    dsimp only [flat, unc, unc1, List.nil_append, List.cons_append]
    have hns : z.2 ∉ dn.map (·.2) := by simpa [mkE] using hns
    have hztd : z ∈ td := (hall z hz).resolve_left fun h => hns (List.mem_map_of_mem h)
    obtain ⟨ta, tb, rfl⟩ := List.append_of_mem hztd
    have hpush : (dn.map (·.2)).toArray.push (mkE z).born = ((dn ++ [z]).map (·.2)).toArray := by simp [mkE]
    have hit : h1.size < h3.size := by omega
    have hi4 : (h3.setIfInBounds h1.size (.mapIter (some g) clock ((dn.map (·.2)).toArray.push (mkE z).born) clock))[h1.size]? = some (.mapIter (some g) clock ((dn.map (·.2)).toArray.push (mkE z).born) clock) := by
      rw [Array.getElem?_setIfInBounds_self_of_lt hit]
    have k34 : Ch [h1.size] h3 (h3.setIfInBounds h1.size (.mapIter (some g) clock ((dn.map (·.2)).toArray.push (mkE z).born) clock)) := ⟨by simp, fun i hi hn => by rw [Array.getElem?_setIfInBounds_ne (fun e => hn (by simp [e]))]⟩
    have hz4 : (h3.setIfInBounds h1.size (.mapIter (some g) clock ((dn.map (·.2)).toArray.push (mkE z).born) clock)).size = h3.size := by simp
    generalize h3.setIfInBounds h1.size (.mapIter (some g) clock ((dn.map (·.2)).toArray.push (mkE z).born) clock) = h4 at hi4 k34 hz4
    have hgm4 : h4[g]? = some (.map ms clock) := k34.get hgm3 (by simp; omega)
    refine entry_of hi4 hgm4 hst (by rw [hZ]; exact List.mem_map_of_mem hz) _ ?_
    refine ⟨(z.1.1, z.1.2, ()), rfl, ?_⟩
    dsimp only [flat, unc, unc1, List.nil_append, List.cons_append]
    rw [hpush] at hi4
    have hperm4 : ((dn ++ [z]) ++ (ta ++ tb)).Perm Z := by
      refine List.Perm.trans ?_ hperm
      rw [List.append_assoc]
      exact List.Perm.append_left _ (by simpa using List.perm_middle.symm)
    have s4 : SL h4 (h1.size + 1) 9 1 p3 l4 l5 ((outZ dn).map enS) := s3.keep' k34 (fun j hj => by have := (s3.blk hj).1; simp; omega)
    have k24 : Ch [h1.size] h2 h4 := Ch.trans k3 k34 (fun j hj _ => hj)
    have htl : (ta ++ tb).length < (ta ++ z :: tb).length := by simp
    have hll : l4 = (outZ dn).length := by rw [s3.1, List.length_map]
    have hle : (outZ dn).length ≤ es.length := by
      have h1 := (outZ_perm hperm).length_eq
      have h2 : outZ (dn ++ (ta ++ z :: tb)) = outZ dn ++ outZ (ta ++ z :: tb) := by unfold outZ; rw [List.filter_append, List.map_append]
      rw [h2, List.length_append] at h1
      omega
    have hsn : outZ (dn ++ [z]) = if z.1.2 = true then outZ dn ++ [z.1.1] else outZ dn := by
      unfold outZ
      rw [List.filter_append, List.map_append]
      cases hb : z.1.2 with
      | true => simp [hb]
      | false => simp [hb]
    refine cond_mk (fun g2 => ?_) (fun g2 => ?_)
    · have g2 : z.1.2 = true := g2
      rw [if_pos g2] at hsn
      have hl4 : l4 ≤ 2 ^ 40 := by omega
      refine push_of (vs := enS z.1.1) und29 strZS rfl (by omega) (by omega) (by kernel_rfl) rfl rfl s4 (by omega) (by omega) (by omega) ?_
      intro p5 c5 h5 s5 k5 hp5
      refine again_mk (cs := [(false, [.slice 0])]) ((p5, l4 + 1, c5), ()) (ta ++ tb).length rfl htl rfl ⟨dn ++ [z], ta ++ tb, p5, l4 + 1, c5, rfl, hperm4, rfl, k5.get hi4 (fun hj => by have := (s4.blk hj).1; omega), ?_, ?_⟩
      · rw [hsn, List.map_append]
        exact s5
      · exact Ch.trans k24 k5 (fun j hj hl => by have := (s4.blk hj).1; omega)
    · have g2 : ¬ z.1.2 = true := by rw [show z.1.2 = false from g2]; simp
      rw [if_neg g2] at hsn
      refine again_mk (cs := [(false, [.slice 0])]) ((p3, l4, l5), ()) (ta ++ tb).length rfl htl rfl ⟨dn ++ [z], ta ++ tb, p3, l4, l5, rfl, hperm4, rfl, hi4, ?_, k24⟩
      rw [hsn]
      exact s4
end Go.Sx

set_option linter.unusedVariables false
set_option maxRecDepth 100000
namespace Go.Sx
open Go.Proofs
theorem vwT_sl {h : Hp} {b : Nat} {e : TypeId} {p : Option Addr} {l c : Nat} {us : Tms} (s : SL h b e 2 p l c (us.map encT)) : VwT h p l us :=
  ⟨by rw [s.1, List.length_map], fun i hi => by
    obtain ⟨a, ha, hc⟩ := s.cells (i := i) (by simpa using hi)
    rw [List.getElem_map] at hc
    exact ⟨a, ha, hc⟩⟩
/-- Few terms in all. -/
structure EqsSm (es : List EqM) : Prop extends EqsOk es where
  tot : (es.flatMap (·.x.terms)).length ≤ 2 ^ 20
abbrev solE (es : List EqM) (v : ByteArray) : Lin := sol (ownE es) (linE es) (namesE es) v
abbrev edgE (es : List EqM) : ByteArray → ByteArray → Prop := Edge (ownE es) (succL (linE es))
theorem linE_mem {es : List EqM} {v : ByteArray} (hv : v ∈ namesE es) : ∃ e, e ∈ es ∧ e.name = v ∧ linE es v = e.x := by
  obtain ⟨k, hk⟩ := plc_own hv
  obtain ⟨hkl, hkn, hkx⟩ := plc_some hk
  exact ⟨_, List.getElem_mem hkl, hkn, hkx⟩
theorem flatMap_mem_length {α β : Type} (f : α → List β) {l : List α} {a : α} (h : a ∈ l) : (f a).length ≤ (l.flatMap f).length := by
  induction l with
  | nil => simp at h
  | cons b l ih =>
    rw [List.flatMap_cons, List.length_append]
    rcases List.mem_cons.1 h with e | e
    · subst e; omega
    · have := ih e; omega
theorem EqsSm.lin_len {es : List EqM} (o : EqsSm es) {v : ByteArray} (hv : v ∈ namesE es) : (linE es v).terms.length ≤ 2 ^ 20 := by
  obtain ⟨e, he, _, hx⟩ := linE_mem hv
  rw [hx]
  exact Nat.le_trans (flatMap_mem_length (fun e : EqM => e.x.terms) he) o.tot
theorem EqsSm.sol_len {es : List EqM} (o : EqsSm es) (hc : ∀ v, ¬ OnC (edgE es) v) {v : ByteArray} (hv : v ∈ namesE es) : (solE es v).terms.length ≤ 2 ^ 20 := by
  have hnf := sol_nf (ownE_mem es) hc hv
  have hnm := sol_names (ownE_mem es) hc hv
  have h1 : ((solE es v).terms.map (·.1)).Nodup := List.pairwise_map.2 (hnf.1.imp fun h => ltN_ne h)
  have h2 := nodup_le ((solE es v).terms.map (·.1)) ((es.flatMap (·.x.terms)).map (·.1)) h1 (fun s hs => by
    obtain ⟨t, ht, rfl⟩ := List.mem_map.1 hs
    obtain ⟨_, w, u, hw, hu, e⟩ := hnm t ht
    obtain ⟨d, hd, _, hx⟩ := linE_mem hw
    rw [hx] at hu
    rw [← e]
    exact List.mem_map_of_mem (List.mem_flatMap.2 ⟨d, hd, hu⟩))
  rw [List.length_map, List.length_map] at h2
  exact Nat.le_trans h2 o.tot
theorem EqsSm.sol_sz {es : List EqM} (o : EqsSm es) (hc : ∀ v, ¬ OnC (edgE es) v) {v : ByteArray} (hv : v ∈ namesE es) : ∀ t, t ∈ (solE es v).terms → t.1.size ≤ maxLen := by
  intro t ht
  obtain ⟨_, w, u, hw, hu, e⟩ := sol_names (ownE_mem es) hc hv t ht
  obtain ⟨d, hd, _, hx⟩ := linE_mem hw
  rw [hx] at hu
  rw [← e]
  exact o.ts d hd u hu
theorem xpd_length {of : ByteArray → Option Lin} {B : Nat} (hB : 1 ≤ B) (hof : ∀ s y, of s = some y → y.terms.length ≤ B) : ∀ l : Tms, (l.flatMap (xpd of)).length ≤ l.length * B
  | [] => by simp
  | t :: l => by
    rw [List.flatMap_cons, List.length_append, List.length_cons, Nat.add_mul]
    have ih := xpd_length hB hof l
    have : (xpd of t).length ≤ B := by
      unfold xpd
      cases h : of t.1 with
      | none => simpa using hB
      | some y => simpa using hof _ _ h
    omega
/-- Where the solving's things lie. -/
structure SF where
  E : Nat
  gA : Nat
  A : Nat
  gD : Nat
  D : Nat
  V : Nat
def SF.ord (r : SF) : Prop := r.E < r.gA ∧ r.gA < r.A ∧ r.A < r.gD ∧ r.gD < r.D ∧ r.D < r.V
def SF.caps (r : SF) : List Value := [.pointer (some (bx r.D)), .pointer (some (bx r.E)), .pointer (some (bx r.A)), .pointer (some (bx r.V))]
structure CoS (r : SF) (h : Hp) (es : List EqM) (p0 : Option Addr) (l0 c0 : Nat) : Prop where
  bE : Box h r.E 22 [.slice p0 l0 c0]
  bA : Box h r.A 65 [.map (some r.gA)]
  mA : ∃ n, MapF eI h r.gA (plc es) n
  bV : Box h r.V 68 [.func (.func 27) #[] r.caps.toArray]
  bD : Box h r.D 67 [.map (some r.gD)]
  vw : VwE h p0 l0 es
structure LoS (r : SF) (es : List EqM) (p0 : Option Addr) : Prop where
  ord : r.ord
  l0 : ∀ i, i ∈ blkOf p0 → i < r.E
  li : ∀ e, e ∈ es → e.x.terms ≠ [] → ∀ i, i ∈ blkOf e.p → i < r.E
theorem CoS.keep {r : SF} {h h' : Hp} {es : List EqM} {p0 : Option Addr} {l0 c0 : Nat} (m : CoS r h es p0 l0 c0) (lo : LoS r es p0) (k : Ch [r.gD] h h') : CoS r h' es p0 l0 c0 := by
  have o := lo.ord
  unfold SF.ord at o
  obtain ⟨n, mA⟩ := m.mA
  exact ⟨m.bE.keep k (by simp; omega), m.bA.keep k (by simp; omega), ⟨n, mA.keep k (by simp; omega)⟩, m.bV.keep k (by simp; omega), m.bD.keep k (by simp; omega), m.vw.keepW k (fun i hi => by have := lo.l0 i hi; simp; omega) (fun e he hne i hi => by have := lo.li e he hne i hi; simp; omega)⟩
/-- What is solved by now. -/
structure DnS (r : SF) (h : Hp) (es : List EqM) (f : ByteArray → Option LinM) : Prop where
  map : ∃ n, MapL h r.gD f n
  of : ∀ s y, f s = some y → s ∈ namesE es ∧ y.x = solE es s ∧ ∀ i, i ∈ blkOf y.p → r.V < i ∧ i < h.size
theorem DnS.ext {r : SF} {h h' : Hp} {es : List EqM} {f : ByteArray → Option LinM} (d : DnS r h es f) (k : Ext h h') : DnS r h' es f := by
  obtain ⟨n, m⟩ := d.map
  exact ⟨⟨n, m.keep k (by simp) (fun s y hy i hi => by simp)⟩, fun s y hy => by
    obtain ⟨a, b, c⟩ := d.of s y hy
    exact ⟨a, b, fun i hi => ⟨(c i hi).1, Nat.lt_of_lt_of_le (c i hi).2 k.size⟩⟩⟩
def eSub (f f' : ByteArray → Option LinM) : Prop := ∀ s y, f s = some y → f' s = some y
/-- What is new lies from a place on. -/
def NewAt (b : Nat) (f f' : ByteArray → Option LinM) : Prop := ∀ s y, f' s = some y → f s = some y ∨ ∀ i, i ∈ blkOf y.p → b ≤ i
theorem hb27 : hasBody Try.prog 27 = true := by kernel_rfl
theorem solve_ok {r : SF} {es : List EqM} {p0 : Option Addr} {l0 c0 : Nat} (eo : EqsSm es) (lo : LoS r es p0) (hc : ∀ v, ¬ OnC (edgE es) v) : ∀ (k : Nat) (v : ByteArray), Hg (edgE es) k v → v ∈ namesE es → ∀ (h : Hp) (f : ByteArray → Option LinM), CoS r h es p0 l0 c0 → DnS r h es f →
    HC Try.prog 27 (.string v :: r.caps).toArray h fun w h' => ∃ y f', w = eL y ∧ y.x = solE es v ∧ DnS r h' es f' ∧ f' v = some y ∧ eSub f f' ∧ NewAt h.size f f' ∧ Ch [r.gD] h h' := by
  intro k
  have o := lo.ord
  have o' := o
  unfold SF.ord at o'
  have hown := ownE_mem es
  induction k with
  | zero => intro v hg; exact hg.elim
  | succ k ih =>
    intro v hg hv h f co dn
    refine hcr_of (args := .string v :: r.caps) mixed Try.func27 (by kernel_rfl) (t_equ_Solve_1_solve_eq v (bx r.D) (bx r.E) (bx r.A) (bx r.V)) ?_
    unfold t_equ_Solve_1_solve
    have hV := co.bV.lt
    have hsv := eo.toEqsOk.names v hv
    refine newB ?_
    intro h1 b1 e1 z1
    have co1 := co.keep lo (e1.mono (by simp))
    have dn1 := dn.ext e1
    refine loads_box co1.bD (some r.gD, ()) rfl ?_
    dsimp only [flat, unc, unc1, List.nil_append, List.cons_append]
    obtain ⟨n1, m1⟩ := dn1.map
    refine lookL m1.map v (fun y hy1 => ?_) (fun hy0 => ?_)
    · refine newB ?_
      intro h2 b2 e2 z2
      refine stores_of b2 rfl (by simp) ?_
      intro h3 b3 k3 z3
      have b3 : Box h3 h1.size 36 [.slice y.p y.l y.c, .int .u32 (y.x.num : Int)] := b3
      have e13 : Ext h1 h3 := Ch.trans e2 k3 (fun j hj hl => by simp at hj; omega)
      refine cond_t rfl ?_
      refine loads_box b3 ((y.p, y.l, y.c), (y.x.num : Int), ()) rfl ?_
      dsimp only [flat, unc, unc1, List.nil_append, List.cons_append]
      refine stores_of (b1.keep e13 (by simp)) rfl (by simp) ?_
      intro h4 b4 k4 z4
      have b4 : Box h4 h.size 36 [.slice y.p y.l y.c, .int .u32 (y.x.num : Int)] := b4
      refine loads_box b4 ((y.p, y.l, y.c), (y.x.num : Int), ()) rfl ?_
      have e04 : Ext h h4 := Ch.trans (e1.trans e13) k4 (fun j hj hl => by simp at hj; omega)
      exact ⟨y, f, rfl, (dn.of v y hy1).2.1, dn.ext e04, hy1, fun s y hy => hy, fun s y hy => .inl hy, e04.mono (by simp)⟩
    · refine newB ?_
      intro h2 b2 e2 z2
      refine stores_of b2 rfl (by simp) ?_
      intro h3 b3 k3 z3
      have e13 : Ext h1 h3 := Ch.trans e2 k3 (fun j hj hl => by simp at hj; omega)
      refine cond_f rfl ?_
      have e03 := e1.trans e13
      have co3 := co.keep lo (e03.mono (by simp))
      have dn3 := dn.ext e03
      refine loads_box co3.bE ((p0, l0, c0), ()) rfl ?_
      dsimp only [flat, unc, unc1, List.nil_append, List.cons_append]
      refine loads_box co3.bA (some r.gA, ()) rfl ?_
      dsimp only [flat, unc, unc1, List.nil_append, List.cons_append]
      obtain ⟨nA, mA⟩ := co3.mA
      refine lookI mA v ?_
      obtain ⟨q, hq⟩ := plc_own hv
      obtain ⟨hql, hqn, hqx⟩ := plc_some hq
      have hl0 := co3.vw.len
      have hlen := eo.len
      rw [hq]
      simp only [Option.getD_some]
      refine need_of ⟨by omega, by omega⟩ ?_
      obtain ⟨a, ha, hcc⟩ := co3.vw.cells q hql
      refine osome_mk ha ?_
      rw [show Int.toNat (q : Int) = q by omega]
      have hinW : ∀ h', CoS r h' es p0 l0 c0 → VwT h' es[q].p es[q].l es[q].x.terms := fun h' co' => co'.vw.inn es[q] (List.getElem_mem hql)
      have hts := eo.ts es[q] (List.getElem_mem hql)
      have hli := lo.li es[q] (List.getElem_mem hql)
      have hll := eo.lin_len hv
      have hsol := sol_eq hown hc hv
      rw [hqx] at hll hsol
      have hedge : ∀ t, t ∈ es[q].x.terms → ownE es t.1 = true → edgE es v t.1 := fun t ht ho => ⟨mem_succL.2 ⟨t, by rw [hqx]; exact ht, rfl⟩, ho⟩
      generalize es[q] = e at hcc hinW hts hli hll hsol hedge
      refine loads_of ((e.p, e.l, e.c), (e.x.num : Int), ()) ⟨by rw [add_zero']; exact hcc.2.1, by rw [add_add]; exact hcc.2.2.1, trivial⟩ ?_
      dsimp only [flat, unc, unc1, List.nil_append, List.cons_append]
      refine newB ?_
      intro h5 b5 e5 z5
      refine stores_of b5 rfl (by simp) ?_
      intro h6 b6 k6 z6
      have b6 : Box h6 h3.size 36 [.slice e.p e.l e.c, .int .u32 (e.x.num : Int)] := b6
      have e36 : Ext h3 h6 := Ch.trans e5 k6 (fun j hj hl => by simp at hj; omega)
      have e06 := e03.trans e36
      have hz3 := e03.size
      refine loads_box b6 ((e.p, e.l, e.c), ()) rfl ?_
      dsimp only [flat, unc, unc1, List.nil_append, List.cons_append]
      refine loop_of (cs := [(false, [.int .i64])]) (fun x w h' => ∃ (i : Nat) (f' : ByteArray → Option LinM), x.1 = (i : Int) ∧ i ≤ e.x.terms.length ∧ w = e.x.terms.length - i ∧ DnS r h' es f' ∧ eSub f f' ∧ NewAt h6.size f f' ∧ (∀ t, t ∈ e.x.terms.take i → ownE es t.1 = true → ∃ y, f' t.1 = some y) ∧ Ch [r.gD] h6 h')
        ((0 : Int), ()) e.x.terms.length rfl ⟨0, f, rfl, by omega, by omega, dn.ext e06, fun s y hy => hy, fun s y hy => .inl hy, by simp, Ch.refl _ _⟩ ?_
      rintro ⟨n23, ⟨⟩⟩ w h7 ⟨i, f7, hi0, hile, rfl, dn7, sb7, na7, dd7, k7⟩
      simp only at hi0
      subst hi0
      dsimp only [flat, unc, unc1, List.nil_append, List.cons_append]
      have k07 : Ch [r.gD] h h7 := Ch.trans (e06.mono (by simp)) k7 (fun j hj _ => hj)
      have co7 := co.keep lo k07
      have hel := (hinW h7 co7).len
      refine cond_mk (fun g1 => ?_) (fun g1 => ?_)
      · have g1 := of_decide_eq_true g1
        have hilt : i < e.x.terms.length := by omega
        refine need_of ⟨by omega, by omega⟩ ?_
        obtain ⟨a2, ha2, hc2⟩ := (hinW h7 co7).cells i hilt
        refine osome_mk ha2 ?_
        rw [show Int.toNat (i : Int) = i by omega]
        have htk : e.x.terms.take (i + 1) = e.x.terms.take i ++ [e.x.terms[i]] := List.take_succ_eq_append_getElem hilt
        have hed := hedge e.x.terms[i] (List.getElem_mem hilt)
        generalize e.x.terms[i] = t at hc2 htk hed
        refine loads_of (t.1, (t.2 : Int), ()) hc2 ?_
        dsimp only [flat, unc, unc1, List.nil_append, List.cons_append]
        refine newB ?_
        intro h8 b8 e8 z8
        refine stores_of b8 rfl (by simp) ?_
        intro h9 b9 k9 z9
        have b9 : Box h9 h7.size 40 [.string t.1, .int .u32 (t.2 : Int)] := b9
        have e79 : Ext h7 h9 := Ch.trans e8 k9 (fun j hj hl => by simp at hj; omega)
        have k09 : Ch [r.gD] h h9 := Ch.trans k07 e79 (by simp)
        have co9 := co.keep lo k09
        have dn9 := dn7.ext e79
        have hw : IntKind.wrap .i64 ((i : Int) + 1) = ((i + 1 : Nat) : Int) := by rw [wrap_i64 (by omega) (by omega)]; omega
        refine loads_box co9.bA (some r.gA, ()) rfl ?_
        dsimp only [flat, unc, unc1, List.nil_append, List.cons_append]
        refine loads_box b9 (t.1, ()) rfl ?_
        dsimp only [flat, unc, unc1, List.nil_append, List.cons_append]
        obtain ⟨nA9, mA9⟩ := co9.mA
        refine lookIb mA9 t.1 ?_
        refine cond_mk (fun g2 => ?_) (fun g2 => ?_)
        · have g2 : ownE es t.1 = true := g2
          refine loads_box co9.bV (.func (.func 27) #[] r.caps.toArray, ()) rfl ?_
          dsimp only [flat, unc, unc1, List.nil_append, List.cons_append]
          refine loads_box b9 (t.1, ()) rfl ?_
          dsimp only [flat, unc, unc1, List.nil_append, List.cons_append]
          refine callv_of (cap := r.caps) hb27 rfl (ih t.1 (hg t.1 (hed g2)) ((hown _).1 g2) h9 f7 co9 dn9) ?_
          rintro _ h10 ⟨y, f10, rfl, hyx, dn10, hfy, sb10, na10, k10⟩
          refine ⟨((y.p, y.l, y.c), (y.x.num : Int), ()), rfl, ?_⟩
          dsimp only [flat, unc, unc1, List.nil_append, List.cons_append]
          refine again_mk (cs := [(false, [.int .i64])]) (((i + 1 : Nat) : Int), ()) (e.x.terms.length - (i + 1)) rfl (by omega) (congrArg (fun z => [Value.int .i64 z]) hw) ⟨i + 1, f10, rfl, by omega, rfl, dn10, fun s y hy => sb10 s y (sb7 s y hy), fun s y hy => ?_, fun u hu ho => ?_, ?_⟩
          · rcases na10 s y hy with h | h
            · exact na7 s y h
            · refine .inr fun i hi => ?_
              have := h i hi
              have := k7.size
              have := e79.size
              omega
          · rw [htk] at hu
            rcases List.mem_append.1 hu with h | h
            · obtain ⟨y, hy⟩ := dd7 u h ho
              exact ⟨y, sb10 _ _ hy⟩
            · rw [List.mem_singleton.1 h]; exact ⟨y, hfy⟩
          · exact Ch.trans (Ch.trans k7 e79 (by simp)) k10 (fun j hj _ => hj)
        · have g2 : ¬ ownE es t.1 = true := by
            unfold ownE
            intro k
            rw [k] at g2
            cases g2
          refine again_mk (cs := [(false, [.int .i64])]) (((i + 1 : Nat) : Int), ()) (e.x.terms.length - (i + 1)) rfl (by omega) (congrArg (fun z => [Value.int .i64 z]) hw) ⟨i + 1, f7, rfl, by omega, rfl, dn9, sb7, na7, fun u hu ho => ?_, Ch.trans k7 e79 (by simp)⟩
          rw [htk] at hu
          rcases List.mem_append.1 hu with h | h
          · exact dd7 u h ho
          · rw [List.mem_singleton.1 h] at ho; exact (g2 ho).elim
      · have g1 := of_decide_eq_false g1
        have hii : e.x.terms.take i = e.x.terms := List.take_of_length_le (by omega)
        rw [hii] at dd7
        have b7 := b6.keep k7 (by simp; omega)
        refine loads_box b7 ((e.p, e.l, e.c), (e.x.num : Int), ()) rfl ?_
        dsimp only [flat, unc, unc1, List.nil_append, List.cons_append]
        refine loads_box co7.bD (some r.gD, ()) rfl ?_
        dsimp only [flat, unc, unc1, List.nil_append, List.cons_append]
        obtain ⟨n7, m7⟩ := dn7.map
        have hz7 := k07.size
        have hput : putS (fun s => (f7 s).map (·.x)) e.x = solE es v := by
          show _ = sol (ownE es) (linE es) (namesE es) v
          rw [hsol]
          refine putS_congr fun t ht => ?_
          show (f7 t.1).map (·.x) = solO (ownE es) (linE es) (namesE es) t.1
          unfold solO
          by_cases ho : ownE es t.1 = true
          · obtain ⟨y, hy⟩ := dd7 t ht ho
            rw [hy, if_pos ho, Option.map_some, (dn7.of _ _ hy).2.1]
          · rw [if_neg ho]
            cases hy : f7 t.1 with
            | none => rfl
            | some y => exact (ho ((hown _).2 (dn7.of _ _ hy).1)).elim
        have hlens : ∀ s y, f7 s = some y → y.x.terms.length ≤ 2 ^ 20 := fun s y hy => by
          obtain ⟨a, b, _⟩ := dn7.of s y hy
          rw [b]; exact eo.sol_len hc a
        refine call_of (put28_hc (c := e.c) (hinW h7 co7) m7 (by omega) hts (fun s y hy => ⟨by have := hlens s y hy; omega, by
            obtain ⟨a, b, _⟩ := dn7.of s y hy
            rw [b]; exact eo.sol_sz hc a⟩) ?_) ?_
        · have := xpd_length (of := fun s => (f7 s).map (·.x)) (B := 2 ^ 20) (by omega) (fun s y hy => by
            cases hh : f7 s with
            | none => simp only [hh] at hy; cases hy
            | some z =>
              simp only [hh, Option.map_some, Option.some.injEq] at hy
              rw [← hy]; exact hlens s z hh) e.x.terms
          have h3 : e.x.terms.length * 2 ^ 20 ≤ 2 ^ 20 * 2 ^ 20 := Nat.mul_le_mul_right _ hll
          omega
        · rintro _ h8 ⟨⟨p', l', c', rfl, s8⟩, e8⟩
          rw [hput] at s8 ⊢
          refine ⟨((p', l', c'), ((solE es v).num : Int), ()), rfl, ?_⟩
          dsimp only [flat, unc, unc1, List.nil_append, List.cons_append]
          have b8 := b7.keep e8 (by simp)
          refine stores_of b8 rfl (by simp) ?_
          intro h9 b9 k9 z9
          have b9 : Box h9 h3.size 36 [.slice p' l' c', .int .u32 ((solE es v).num : Int)] := b9
          have hz8 := e8.size
          have k79 : Ch [h3.size] h7 h9 := Ch.trans (e8.mono (by simp)) k9 (fun j hj _ => hj)
          have k09 : Ch [r.gD] h h9 := Ch.trans (Ch.trans k07 e8 (by simp)) k9 (fun j hj hl => by simp at hj; omega)
          have co9 := co.keep lo k09
          have hk7 := k7.size
          have hz36 : h3.size < h6.size := by omega
          have hblk : ∀ s y, f7 s = some y → ∀ i, i ∈ blkOf y.p → i ≠ h3.size ∧ i ≠ h.size ∧ i ≠ r.gD := by
            intro s y hy i hi
            have h1 := (dn7.of s y hy).2.2 i hi
            rcases na7 s y hy with h | h
            · have := ((dn.of s y h).2.2 i hi).2
              omega
            · have := h i hi
              omega
          have m9 : MapL h9 r.gD f7 n7 := m7.keep k79 (by simp; omega) (fun s y hy i hi => by
            have := (hblk s y hy i hi).1
            simpa using this)
          have s9 := s8.keep' k9 (fun i hi => by have := (s8.blk hi).1; simp; omega)
          refine loads_box co9.bD (some r.gD, ()) rfl ?_
          dsimp only [flat, unc, unc1, List.nil_append, List.cons_append]
          refine loads_box b9 ((p', l', c'), ((solE es v).num : Int), ()) rfl ?_
          dsimp only [flat, unc, unc1, List.nil_append, List.cons_append]
          refine putLin m9.map hsv ⟨p', l', c', solE es v⟩ ?_
          intro h10 m10 k10 z10
          have b10 := b9.keep k10 (by simp; omega)
          refine loads_box b10 ((p', l', c'), ((solE es v).num : Int), ()) rfl ?_
          dsimp only [flat, unc, unc1, List.nil_append, List.cons_append]
          have b110 : Box h10 h.size 36 [.slice none 0 0, .int .u32 0] := ((((b1.keep e13 (by simp)).keep e36 (by simp)).keep k7 (by simp; omega)).keep k79 (by simp; omega)).keep k10 (by simp; omega)
          refine stores_of b110 rfl (by simp) ?_
          intro h11 b11 k11 z11
          have b11 : Box h11 h.size 36 [.slice p' l' c', .int .u32 ((solE es v).num : Int)] := b11
          refine loads_box b11 ((p', l', c'), ((solE es v).num : Int), ()) rfl ?_
          have k011 : Ch [r.gD] h h11 := Ch.trans (Ch.trans k09 k10 (fun j hj _ => hj)) k11 (fun j hj hl => by simp at hj; omega)
          have hz9 := k79.size
          refine ⟨⟨p', l', c', solE es v⟩, fset f7 v ⟨p', l', c', solE es v⟩, rfl, rfl, ⟨⟨_, m10.keep k11 (by simp; omega), fun s y hy => ?_⟩, fun s y hy => ?_⟩, fset_same _ _ _, fun s y hy => ?_, fun s y hy => ?_, k011⟩
          · by_cases hsv : s = v
            · subst hsv
              rw [fset_same] at hy
              have hy := Option.some.inj hy
              subst hy
              exact vwT_sl ((s9.keep' k10 (fun i hi => by have := (s9.blk hi).1; simp; omega)).keep' k11 (fun i hi => by have := (s9.blk hi).1; simp; omega))
            · rw [fset_other _ _ hsv] at hy
              exact ((m9.inn s y hy).keep k10 (fun i hi => by have := (hblk s y hy i hi).2.2; simpa using this)).keep k11 (fun i hi => by have := (hblk s y hy i hi).2.1; simpa using this)
          · by_cases hsv : s = v
            · subst hsv
              rw [fset_same] at hy
              have hy := Option.some.inj hy
              subst hy
              refine ⟨hv, rfl, fun i hi => ?_⟩
              have := s9.blk hi
              omega
            · rw [fset_other _ _ hsv] at hy
              obtain ⟨a, b, c⟩ := dn7.of s y hy
              refine ⟨a, b, fun i hi => ?_⟩
              have := c i hi
              omega
          · have hne : s ≠ v := fun e => by rw [e, hy0] at hy; cases hy
            rw [fset_other _ _ hne]
            exact sb7 s y hy
          · by_cases hsv : s = v
            · subst hsv
              rw [fset_same] at hy
              have hy := Option.some.inj hy
              subst hy
              refine .inr fun i hi => ?_
              have := s9.blk hi
              omega
            · rw [fset_other _ _ hsv] at hy
              rcases na7 s y hy with h | h
              · exact .inl h
              · refine .inr fun i hi => ?_
                have := h i hi
                omega
end Go.Sx
