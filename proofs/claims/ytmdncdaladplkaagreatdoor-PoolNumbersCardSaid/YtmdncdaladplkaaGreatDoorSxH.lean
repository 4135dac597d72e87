/- A framework of our own, part H: what is known of heaps: new memory, rows of cells that are one's own, append. No condition. -/
import Derived.Test.YtmdncdaladplkaaGreatDoorSxL
set_option linter.unusedVariables false
set_option linter.unusedSimpArgs false
set_option linter.deprecated false
namespace Go.Sx

/-- Of what was there only these blocks may have turned; no block has gone. -/
structure Ch (ws : List Nat) (h h' : Hp) : Prop where
  size : h.size ≤ h'.size
  same : ∀ i, i < h.size → i ∉ ws → h'[i]? = h[i]?
/-- Nothing that was there has turned. -/
abbrev Ext (h h' : Hp) : Prop := Ch [] h h'
theorem Ch.refl (ws : List Nat) (h : Hp) : Ch ws h h := ⟨Nat.le_refl _, fun _ _ _ => rfl⟩
theorem Ch.trans {ws vs : List Nat} {a b c : Hp} (h : Ch ws a b) (k : Ch vs b c) (hv : ∀ i, i ∈ vs → i < a.size → i ∈ ws) : Ch ws a c :=
  ⟨Nat.le_trans h.size k.size, fun i hi hw => (k.same i (Nat.lt_of_lt_of_le hi h.size) fun hm => hw (hv i hm hi)).trans (h.same i hi hw)⟩
theorem Ch.mono {ws vs : List Nat} {a b : Hp} (h : Ch ws a b) (hv : ∀ i, i ∈ ws → i < a.size → i ∈ vs) : Ch vs a b := ⟨h.size, fun i hi hw => h.same i hi fun hm => hw (hv i hm hi)⟩
theorem Ext.trans {a b c : Hp} (h : Ext a b) (k : Ext b c) : Ext a c := Ch.trans h k (by simp)
theorem Ext.push (h : Hp) (o : Obj) : Ext h (h.push o) := ⟨by simp, fun i hi _ => by rw [Array.getElem?_push, if_neg (by omega)]⟩
theorem lt_of_get {h : Hp} {g : Nat} {o : Obj} (hg : h[g]? = some o) : g < h.size := by
  rcases Nat.lt_or_ge g h.size with hl | hl
  · exact hl
  · rw [Array.getElem?_eq_none hl] at hg; cases hg
theorem Ch.get {ws : List Nat} {h h' : Hp} (k : Ch ws h h') {g : Nat} {o : Obj} (hg : h[g]? = some o) (hw : g ∉ ws) : h'[g]? = some o := (k.same g (lt_of_get hg) hw).trans hg

/-- A block of cells, none of them frozen. -/
def Box (h : Hp) (g : Nat) (e : TypeId) (xs : List Value) : Prop := h[g]? = some (.cells xs.toArray e (0, 0))
theorem Box.lt {h : Hp} {g : Nat} {e : TypeId} {xs : List Value} (b : Box h g e xs) : g < h.size := lt_of_get b
theorem Box.keep {ws : List Nat} {h h' : Hp} {g : Nat} {e : TypeId} {xs : List Value} (b : Box h g e xs) (k : Ch ws h h') (hw : g ∉ ws) : Box h' g e xs := k.get b hw
theorem Box.new (h : Hp) (e : TypeId) (xs : List Value) : Box (h.push (.cells xs.toArray e (0, 0))) h.size e xs := by
  unfold Box; rw [Array.getElem?_push_size]
theorem hcell_of {h : Hp} {g off : Nat} {c : Array Value} {e : TypeId} {f : Nat × Nat} (hg : h[g]? = some (.cells c e f)) : hcell h ⟨g, off, none⟩ = c[off]? := by
  unfold hcell; simp only [hg]; rfl
theorem Box.cell {h : Hp} {g off : Nat} {e : TypeId} {xs : List Value} (b : Box h g e xs) : hcell h ⟨g, off, none⟩ = xs[off]? := by
  rw [hcell_of b]; simp
theorem Box.frozen {h : Hp} {g off : Nat} {e : TypeId} {xs : List Value} (b : Box h g e xs) : hfrozen h ⟨g, off, none⟩ = false := by
  unfold hfrozen; unfold Box at b; simp only [b]; simp
theorem add_box (g off i : Nat) : (⟨g, off, none⟩ : Addr).add i = ⟨g, off + i, none⟩ := by
  unfold Addr.add
  split
  · subst_vars; rfl
  · rfl
theorem add_block (a : Addr) (i : Nat) : (a.add i).block = a.block := by
  unfold Addr.add
  split <;> rfl
theorem hcell_keep {ws : List Nat} {h h' : Hp} {a : Addr} {v : Value} (hc : hcell h a = some v) (k : Ch ws h h') (hw : a.block ∉ ws) : hcell h' a = some v := by
  unfold hcell at hc ⊢
  split at hc
  · rename_i c e f hg
    rw [k.get hg hw]; exact hc
  · cases hc
theorem cellsAt_keep {ws : List Nat} {h h' : Hp} {a : Addr} (k : Ch ws h h') (hw : a.block ∉ ws) : ∀ (vs : List Value) (i : Nat), cellsAt h a i vs → cellsAt h' a i vs
  | [], _, _ => trivial
  | v :: vs, i, hc => ⟨hcell_keep hc.1 k (by rw [add_block]; exact hw), cellsAt_keep k hw vs (i + 1) hc.2⟩
theorem Box.cells_from {h : Hp} {g off : Nat} {e : TypeId} {xs : List Value} (b : Box h g e xs) : ∀ (vs : List Value) (i : Nat), (∀ j, j < vs.length → xs[off + (i + j)]? = vs[j]?) → cellsAt h ⟨g, off, none⟩ i vs
  | [], _, _ => trivial
  | v :: vs, i, hv => by
    refine ⟨?_, b.cells_from vs (i + 1) fun j hj => ?_⟩
    · rw [add_box, b.cell]
      exact hv 0 (by simp)
    · have := hv (j + 1) (by simpa using hj)
      rw [List.getElem?_cons_succ] at this
      rw [← this]; congr 1; omega
theorem Box.cells {h : Hp} {g off : Nat} {e : TypeId} {xs : List Value} (b : Box h g e xs) (vs : List Value) (hv : (xs.drop off).take vs.length = vs) : cellsAt h ⟨g, off, none⟩ 0 vs := by
  refine b.cells_from vs 0 fun j hj => ?_
  have : ((xs.drop off).take vs.length)[j]? = vs[j]? := by rw [hv]
  rw [List.getElem?_take, if_pos hj, List.getElem?_drop] at this
  rw [← this]; congr 1; omega
/-- Cells turned one behind the other. -/
def setL (xs : List Value) : Nat → List Value → List Value
  | _, [] => xs
  | i, v :: vs => setL (xs.set i v) (i + 1) vs
theorem setL_length : ∀ (vs xs : List Value) (i : Nat), (setL xs i vs).length = xs.length
  | [], _, _ => rfl
  | v :: vs, xs, i => by simp [setL, setL_length vs]
theorem setL_eq : ∀ (vs xs : List Value) (i : Nat), i + vs.length ≤ xs.length → setL xs i vs = xs.take i ++ vs ++ xs.drop (i + vs.length)
  | [], xs, i, _ => by simp [setL]
  | v :: vs, xs, i, h => by
    simp only [List.length_cons] at h
    rw [setL, setL_eq vs (xs.set i v) (i + 1) (by rw [List.length_set]; omega)]
    rw [List.take_set, List.drop_set_of_lt (show i < i + 1 + vs.length by omega)]
    have e1 : (xs.take (i + 1)).set i v = xs.take i ++ [v] := by
      rw [List.take_succ_eq_append_getElem (by omega), List.set_append_right _ _ (by simp; omega)]
      simp [Nat.min_eq_left (by omega : i ≤ xs.length)]
    rw [e1]
    simp only [List.append_assoc, List.cons_append, List.nil_append, List.length_cons]
    rw [show i + 1 + vs.length = i + (vs.length + 1) by omega]
theorem hset_box {h : Hp} {g off : Nat} {e : TypeId} {xs : List Value} (b : Box h g e xs) (v : Value) : Box (hset h ⟨g, off, none⟩ v) g e (xs.set off v) ∧ Ch [g] h (hset h ⟨g, off, none⟩ v) ∧ (hset h ⟨g, off, none⟩ v).size = h.size := by
  unfold hset
  refine ⟨?_, ⟨by simp, fun i hi hw => ?_⟩, by simp⟩
  · unfold Box at b ⊢
    rw [Array.getElem?_modify, if_pos rfl, b]
    simp
  · rw [Array.getElem?_modify, if_neg (by simp at hw; exact fun e => hw e.symm)]
theorem stores_box {g off : Nat} {e : TypeId} : ∀ (vs : List Value) (h : Hp) (i : Nat) (xs : List Value), Box h g e xs → vs.all plainV = true → off + i + vs.length ≤ xs.length →
    canSt h ⟨g, off, none⟩ i vs ∧ Box (hsets h ⟨g, off, none⟩ i vs) g e (setL xs (off + i) vs) ∧ Ch [g] h (hsets h ⟨g, off, none⟩ i vs) ∧ (hsets h ⟨g, off, none⟩ i vs).size = h.size
  | [], h, i, xs, b, _, _ => ⟨trivial, b, Ch.refl _ _, rfl⟩
  | v :: vs, h, i, xs, b, hp, hl => by
    simp only [List.all_cons, Bool.and_eq_true, List.length_cons] at hp hl
    obtain ⟨b1, c1, z1⟩ := hset_box (off := off + i) b v
    obtain ⟨k1, k2, k3, k4⟩ := stores_box (off := off) vs (hset h ⟨g, off + i, none⟩ v) (i + 1) (xs.set (off + i) v) b1 hp.2 (by rw [List.length_set]; omega)
    unfold canSt hsets
    rw [add_box]
    refine ⟨⟨hp.1, ⟨xs[off + i]'(by omega), ?_⟩, b.frozen, k1⟩, k2, c1.trans k3 (by simp), k4.trans z1⟩
    rw [b.cell, List.getElem?_eq_getElem]

section rules
variable {P : Program} {L : Lp} {K : Value → Hp → Prop} {h : Hp}
theorem stores_of {g off : Nat} {e : TypeId} {xs vs : List Value} {k : T} (b : Box h g e xs) (hp : vs.all plainV = true) (hl : off + vs.length ≤ xs.length)
    (hk : ∀ h', Box h' g e (setL xs off vs) → Ch [g] h h' → h'.size = h.size → k L K h') : T.stores ⟨g, off, none⟩ vs k L K h := by
  obtain ⟨k1, k2, k3, k4⟩ := stores_box (off := off) vs h 0 xs b hp hl
  exact ⟨k1, hk _ k2 k3 k4⟩
theorem loads_box {g off : Nat} {e : TypeId} {xs : List Value} {ds : List TypeDesc} {k : Cur ds T} (b : Box h g e xs) (x : HVs ds) (hv : (xs.drop off).take (hvs ds x).length = hvs ds x) (hk : unc _ k x L K h) :
    T.loads ⟨g, off, none⟩ ds k L K h := loads_of x (b.cells _ hv) hk
theorem join_of {cs : List Comp} {first : T} {after : Cur (flat cs) T} (J : HVs (flat cs) → Hp → Prop) (hf : first (L ++ [fun vs h' => ∃ y, vs = parts cs (hvs _ y) ∧ J y h']) K h) (ha : ∀ y h', J y h' → unc _ after y L K h') : T.join cs first after L K h := ⟨J, hf, ha⟩
theorem meet_mk {lv : Nat} {vs : List Value} {cs : List Comp} {J : HVs (flat cs) → Hp → Prop} (y : HVs (flat cs)) (hL : L[lv]? = some (fun vs h' => ∃ y, vs = parts cs (hvs _ y) ∧ J y h')) (hy : vs = parts cs (hvs _ y)) (hJ : J y h) : T.again lv vs L K h := by
  unfold T.again
  rw [hL]
  exact ⟨y, hy, hJ⟩
theorem newB {cells : List Value} {e : TypeId} {k : Addr → T} (hk : ∀ h', Box h' h.size e cells → Ext h h' → h'.size = h.size + 1 → k ⟨h.size, 0, none⟩ L K h') : T.new cells e k L K h :=
  hk _ (Box.new h e cells) (Ext.push h _) (by simp)
theorem sem_slice {s : Sem Value} {k : Option Addr → Nat → Nat → T} (hs : semW P s h fun v h' => ∃ p l c, v = .slice p l c ∧ k p l c L K h') : T.sem P s false [(false, [.slice 0])] k L K h :=
  semW_mono s _ _ _ (fun v h' ⟨p, l, c, hv, hk⟩ => ⟨((p, l, c), ()), hv, hk⟩) hs
theorem sem_bool {s : Sem Value} {b : Bool} {k : Bool → T} (hs : ∀ K' : Value → Hp → Prop, K' (.bool b) h → semW P s h K') (hk : k b L K h) : T.sem P s false [(false, [.bool])] k L K h :=
  hs _ ⟨(b, ()), rfl, hk⟩
end rules

theorem inf_of {P : Program} {t : TypeId} {z : Value} {s b : Nat} (h : (P.info? t).map (fun i => (i.zero, i.size, i.bytes)) = some (some z, s, b)) : ∃ i, P.info? t = some i ∧ i.zero = some z ∧ i.size = s ∧ i.bytes = b := by
  cases hi : P.info? t with
  | none => rw [hi] at h; cases h
  | some i =>
    rw [hi] at h
    simp only [Option.map_some, Option.some.injEq, Prod.mk.injEq] at h
    exact ⟨i, rfl, h.1, h.2.1, h.2.2⟩
theorem hcr_of {P : Program} {f : FuncId} {fn : Func} {cuts : List Nat} {args : List Value} {h : Hp} {R : Value → Hp → Prop} {t : T} (hm : P.follows .mixedOrders = true) (hf : P.funcs[f]? = some fn) (hl : Nat.ble args.length fn.ntmps = true)
    (he : xfun P cuts fn args = t) (ht : t [] R h) : HC P f args.toArray h R := hc_of hm hf hl (by rw [he]; exact ht)
/-- A slice that is one's own: chunks of cells in a block, whatever is ahead of them, and room behind them. -/
def SL (h : Hp) (b : Nat) (e : TypeId) (sz : Nat) (p : Option Addr) (l c : Nat) (xs : List (List Value)) : Prop :=
  l = xs.length ∧ (∀ x, x ∈ xs → x.length = sz) ∧
  match p with
  | none => c = 0 ∧ xs = []
  | some a => ∃ g pre rest, a = ⟨g, pre.length, none⟩ ∧ b ≤ g ∧ (l ≤ c ∧ c < 9223372036854775808) ∧ Box h g e (pre ++ (xs.flatten ++ rest)) ∧ rest.length = (c - l) * sz
/-- The block of a slice. -/
def blkOf (p : Option Addr) : List Nat :=
  match p with
  | none => []
  | some a => [a.block]
theorem SL.nil (h : Hp) (b : Nat) (e : TypeId) (sz : Nat) : SL h b e sz none 0 0 [] := ⟨rfl, by simp, rfl, rfl⟩
theorem SL.keep {ws : List Nat} {h h' : Hp} {b : Nat} {e : TypeId} {sz : Nat} {p : Option Addr} {l c : Nat} {xs : List (List Value)} (s : SL h b e sz p l c xs) (k : Ch ws h h') (hw : ∀ a, p = some a → a.block ∉ ws) : SL h' b e sz p l c xs := by
  refine ⟨s.1, s.2.1, ?_⟩
  cases p with
  | none => exact s.2.2
  | some a =>
    obtain ⟨g, pre, rest, ha, hb, hlc, hbox, hr⟩ := s.2.2
    exact ⟨g, pre, rest, ha, hb, hlc, hbox.keep k (by have := hw a rfl; rw [ha] at this; exact this), hr⟩
theorem SL.mono {h : Hp} {b b' : Nat} {e : TypeId} {sz : Nat} {p : Option Addr} {l c : Nat} {xs : List (List Value)} (s : SL h b e sz p l c xs) (hb' : b' ≤ b) : SL h b' e sz p l c xs := by
  refine ⟨s.1, s.2.1, ?_⟩
  cases p with
  | none => exact s.2.2
  | some a =>
    obtain ⟨g, pre, rest, ha, hb, hlc, hbox, hr⟩ := s.2.2
    exact ⟨g, pre, rest, ha, Nat.le_trans hb' hb, hlc, hbox, hr⟩
theorem flatten_length {sz : Nat} : ∀ (xs : List (List Value)), (∀ x, x ∈ xs → x.length = sz) → xs.flatten.length = xs.length * sz
  | [], _ => by simp
  | x :: xs, h => by
    rw [List.flatten_cons, List.length_append, h x (by simp), flatten_length xs (fun y hy => h y (by simp [hy])), List.length_cons, Nat.add_mul]
    omega
theorem flatten_chunk {sz : Nat} : ∀ (xs : List (List Value)) (i : Nat) (rest : List Value), (∀ x, x ∈ xs → x.length = sz) → (hi : i < xs.length) → ((xs.flatten ++ rest).drop (i * sz)).take sz = xs[i]
  | [], i, _, _, hi => by simp at hi
  | x :: xs, 0, rest, h, _ => by
    have hx : x.length = sz := h x (by simp)
    simp [← hx]
  | x :: xs, i + 1, rest, h, hi => by
    have hx : x.length = sz := h x (by simp)
    have : (i + 1) * sz = x.length + i * sz := by rw [Nat.add_mul, hx]; omega
    rw [this, List.flatten_cons, List.append_assoc, ← List.drop_drop, List.drop_left]
    simpa using flatten_chunk xs i rest (fun y hy => h y (by simp [hy])) (by simpa using hi)
theorem SL.blk {h : Hp} {b : Nat} {e : TypeId} {sz : Nat} {p : Option Addr} {l c : Nat} {xs : List (List Value)} (s : SL h b e sz p l c xs) {i : Nat} (hi : i ∈ blkOf p) : b ≤ i ∧ i < h.size := by
  cases p with
  | none => simp [blkOf] at hi
  | some a =>
    obtain ⟨g, pre, rest, rfl, hbg, hlc, hbox, hr⟩ := s.2.2
    simp [blkOf] at hi
    subst hi
    exact ⟨hbg, hbox.lt⟩
theorem SL.keep' {ws : List Nat} {h h' : Hp} {b : Nat} {e : TypeId} {sz : Nat} {p : Option Addr} {l c : Nat} {xs : List (List Value)} (s : SL h b e sz p l c xs) (k : Ch ws h h') (hw : ∀ i, i ∈ blkOf p → i ∉ ws) : SL h' b e sz p l c xs :=
  s.keep k fun a ha => hw _ (by rw [ha]; simp [blkOf])
/-- The cells of one's own slice, at a place. -/
theorem SL.cells {h : Hp} {b : Nat} {e : TypeId} {sz : Nat} {p : Option Addr} {l c : Nat} {xs : List (List Value)} (s : SL h b e sz p l c xs) {i : Nat} (hi : i < xs.length) :
    ∃ a, p = some a ∧ cellsAt h (a.add (i * sz)) 0 xs[i] := by
  cases p with
  | none => have := s.2.2.2; subst this; simp at hi
  | some a =>
    obtain ⟨g, pre, rest, rfl, hb, hlc, hbox, hr⟩ := s.2.2
    refine ⟨_, rfl, ?_⟩
    rw [add_box]
    refine hbox.cells _ ?_
    rw [s.2.1 _ (List.getElem_mem hi), ← List.drop_drop, List.drop_left]
    exact flatten_chunk xs i rest s.2.1 hi
/-- A part of one's own slice from a place on. -/
theorem SL.drop {h : Hp} {b : Nat} {e : TypeId} {sz : Nat} {p : Option Addr} {l c : Nat} {xs : List (List Value)} (s : SL h b e sz p l c xs) {k : Nat} (hk : k ≤ l) :
    SL h b e sz (p.map fun a => a.add (k * sz)) (l - k) (c - k) (xs.drop k) := by
  refine ⟨by rw [List.length_drop, ← s.1], fun x hx => s.2.1 x (List.mem_of_mem_drop hx), ?_⟩
  cases p with
  | none =>
    obtain ⟨h1, h2⟩ := s.2.2
    subst h1 h2
    exact ⟨by omega, by simp⟩
  | some a =>
    obtain ⟨g, pre, rest, rfl, hb, hlc, hbox, hr⟩ := s.2.2
    have hsplit : xs.flatten = (xs.take k).flatten ++ (xs.drop k).flatten := by rw [← List.flatten_append, List.take_append_drop]
    have hlen : (xs.take k).flatten.length = k * sz := by
      rw [flatten_length _ (fun x hx => s.2.1 x (List.mem_of_mem_take hx)), List.length_take, Nat.min_eq_left (by have := s.1; omega)]
    refine ⟨g, pre ++ (xs.take k).flatten, rest, ?_, hb, by omega, ?_, by rw [hr]; congr 1; omega⟩
    · show Addr.add ⟨g, pre.length, none⟩ (k * sz) = _
      rw [add_box, List.length_append, hlen]
    · rw [hsplit] at hbox
      simpa [List.append_assoc] using hbox

theorem setL_mid {A X B vs : List Value} (h : X.length = vs.length) : setL (A ++ (X ++ B)) A.length vs = A ++ (vs ++ B) := by
  rw [setL_eq _ _ _ (by simp; omega), List.take_left, List.append_assoc, ← List.drop_drop, List.drop_left, ← h, List.drop_left]
/-- One chunk of one's own slice is turned. -/
theorem SL.store {P : Program} {L : Lp} {K : Value → Hp → Prop} {k : T} {h : Hp} {b : Nat} {e : TypeId} {sz : Nat} {p : Option Addr} {l c : Nat} {xs : List (List Value)} (s : SL h b e sz p l c xs) {i : Nat} (hi : i < xs.length) {vs : List Value} (hv : vs.length = sz)
    (hp : vs.all plainV = true) {a : Addr} (ha : p = some a) (hk : ∀ h', SL h' b e sz p l c (xs.set i vs) → Ch (blkOf p) h h' → h'.size = h.size → k L K h') : T.stores (a.add (i * sz)) vs k L K h := by
  subst ha
  obtain ⟨g, pre, rest, rfl, hbg, hlc, hbox, hr⟩ := s.2.2
  have hx : (xs.take i).flatten.length = i * sz := by
    rw [flatten_length _ (fun x hx => s.2.1 x (List.mem_of_mem_take hx)), List.length_take, Nat.min_eq_left (by omega)]
  have e1 : pre ++ (xs.flatten ++ rest) = (pre ++ (xs.take i).flatten) ++ (xs[i] ++ ((xs.drop (i + 1)).flatten ++ rest)) := by
    have e0 : xs.flatten = (xs.take i).flatten ++ (xs[i] ++ (xs.drop (i + 1)).flatten) := by
      conv => lhs; rw [← List.take_append_drop i xs, List.drop_eq_getElem_cons hi]
      rw [List.flatten_append, List.flatten_cons]
    rw [e0]
    simp only [List.append_assoc]
  have e2 : (xs.set i vs).flatten = (xs.take i).flatten ++ (vs ++ (xs.drop (i + 1)).flatten) := by
    rw [List.set_eq_take_append_cons_drop, if_pos hi]
    simp
  have hxi : xs[i].length = vs.length := by rw [hv]; exact s.2.1 _ (List.getElem_mem hi)
  rw [e1] at hbox
  rw [add_box]
  have hlen : (pre ++ (xs.take i).flatten).length = pre.length + i * sz := by rw [List.length_append, hx]
  rw [← hlen]
  refine stores_of hbox hp (by simp; omega) ?_
  intro h' hb' k' z'
  rw [setL_mid hxi] at hb'
  refine hk h' ⟨by rw [List.length_set]; exact s.1, fun x hx => ?_, g, pre, rest, rfl, hbg, hlc, ?_, hr⟩ (by simpa [blkOf] using k') z'
  · rcases List.mem_or_eq_of_mem_set hx with hx | rfl
    · exact s.2.1 x hx
    · exact hv
  · rw [e2]
    simpa [List.append_assoc] using hb'
theorem semW_map {P : Program} {α β : Type} (f : α → β) (s : Sem α) (h : Hp) (K : β → Hp → Prop) : semW P (f <$> s) h K = semW P s h fun a h' => K (f a) h' := by
  have : f <$> s = s >>= fun a => pure (f a) := by rw [← bind_pure_comp]
  rw [this, semW_bind']; rfl
section append
variable {P : Program} {h : Hp} {K : Value → Hp → Prop}
theorem buildSlice_of {t e : TypeId} {n : Nat} {parts : Array (Nat × Value)} {i : TypeInfo} {z : Value} {cells : Array Value} (ht : P.underlying t = some (.slice e)) (hi : P.info? e = some i) (hz : i.zero = some z)
    (hn : n * i.size ≠ 0) (hb : n * i.size ≤ 2 ^ 24)
    (hf : Instr.fill (fun j => some (j * i.size, i.size)) ((Array.range (n * i.size)).map (z.cells[· % z.cells.size]!)) parts.toList = some cells)
    (hk : ∀ h', Box h' h.size e cells.toList → Ext h h' → h'.size = h.size + 1 → K (.slice (some ⟨h.size, 0, none⟩) n n) h') : semW P (Instr.buildSlice t n parts) h K := by
  unfold Instr.buildSlice
  rw [semW_bind', semW_underlying ht]
  simp only
  rw [semW_bind', semW_sizeOf hi, cellsOf_info hi]
  rw [if_neg (by omega), if_neg hn]
  rw [semW_bind', semW_zeroValue (z := z) (by rw [hi]; exact hz)]
  show semW P (match Instr.fill (fun j => some (j * i.size, i.size)) ((Array.range (n * i.size)).map (z.cells[· % z.cells.size]!)) parts.toList with
    | some cells => do
      let d ← newRow e cells
      pure (Value.slice (some d) n n)
    | _ => stuck "buildSlice: a part of the wrong size") h K
  rw [hf]
  refine hk _ ?_ (Ext.push h _) (by simp)
  exact Box.new h e cells.toList
theorem growBy_le (need : Nat) : ∀ (n c : Nat), c ≤ 2 * need + 1024 → 0 < n → Builtin.growBy need n c ≤ 2 * need + 1024 := by
  intro n
  induction n with
  | zero => intro c h h0; omega
  | succ n ih =>
    intro c h _
    unfold Builtin.growBy
    split
    · exact h
    · rename_i hh
      cases n with
      | zero => unfold Builtin.growBy; omega
      | succ n => exact ih _ (by omega) (by omega)
theorem nextcap_le {need old : Nat} (h : old < need) : Builtin.nextslicecap need old ≤ 2 * need + 1024 := by
  unfold Builtin.nextslicecap
  split
  · omega
  · split
    · omega
    · exact growBy_le need 4 old (by omega) (by omega)
theorem zeroCells_size (z : Array Value) (n : Nat) : (Builtin.zeroCells z n).size = n * z.size := by
  unfold Builtin.zeroCells; simp
theorem cut_cap (need old : Nat) (e : TypeId) (t : Nat) : need ≤ (Question.appendCap need old e).cut t ∧ (need < 9223372036854775808 → (Question.appendCap need old e).cut t < 9223372036854775808) := by
  show need ≤ need + t % (2 ^ 63 - need) ∧ (need < 9223372036854775808 → need + t % (2 ^ 63 - need) < 9223372036854775808)
  refine ⟨by omega, fun h => ?_⟩
  have := Nat.mod_lt t (show 0 < 2 ^ 63 - need by omega)
  omega
/-- append of chunks to one's own slice: in the same block, or in a new one. -/
theorem append_of {t ty e : TypeId} {i : TypeInfo} {z : Value} (ht : P.underlying t = some (.slice e)) (hi : P.info? e = some i) (hz : i.zero = some z) (hzs : z.cells.size = i.size)
    {b : Nat} {p : Option Addr} {l c : Nat} {xs ys : List (List Value)} (s : SL h b e i.size p l c xs) {a : Addr} {m cc : Nat} (hm : m = ys.length) (hys : ∀ y, y ∈ ys → y.length = i.size)
    (hc : cellsAt h a 0 ys.flatten) (hp : ys.flatten.all plainV = true) (hby : (2 * (l + m) + 1024) * i.bytes ≤ 2 ^ 48) (hl : l + m ≤ 2 ^ 48) (hb : b ≤ h.size)
    (hk : ∀ p' c' h', SL h' b e i.size p' (l + m) c' (xs ++ ys) → Ch (blkOf p) h h' → (p' = p ∨ ∃ a, p' = some a ∧ h.size ≤ a.block) → K (.slice p' (l + m) c') h') :
    semW P (Builtin.append_ #[t, t] ty #[.slice p l c, .slice (some a) m cc]) h K := by
  have hyl : ys.flatten.length = m * i.size := by rw [flatten_length ys hys, hm]
  have hxl : xs.flatten.length = l * i.size := by rw [flatten_length xs s.2.1, s.1]
  have hall : ∀ x, x ∈ xs ++ ys → x.length = i.size := fun x hx => (List.mem_append.1 hx).elim (s.2.1 x) (hys x)
  have hlen : l + m = (xs ++ ys).length := by rw [List.length_append, ← s.1, hm]
  have hz' : (P.info? e).bind (·.zero) = some z := by rw [hi]; exact hz
  by_cases hroom : l + m ≤ c
  · simp [Builtin.append_, semW_bind', semW_underlying ht, semW_sizeOf hi, cellsOf_info hi, Builtin.lenOf, Builtin.firstCells, hroom]
    refine semW_loadCells hyl hc _ ?_
    cases p with
    | none =>
      have h1 : c = 0 := s.2.2.1
      have h2 : ys = [] := List.eq_nil_of_length_eq_zero (by omega)
      subst h2
      rw [List.append_nil] at hk
      have h3 : m = 0 := by omega
      subst h3
      exact hk none c h s (Ch.refl _ _) (.inl rfl)
    | some a1 =>
      obtain ⟨g, pre, rest, rfl, hbg, hlc, hbox, hr⟩ := s.2.2
      have hfl : (xs.flatten ++ rest).length = c * i.size := by
        rw [List.length_append, hxl, hr, ← Nat.add_mul]; congr 1; omega
      have hle : l * i.size + m * i.size ≤ c * i.size := by rw [← Nat.add_mul]; exact Nat.mul_le_mul_right _ hroom
      simp only
      rw [add_box, semW_map]
      obtain ⟨k1, k2, k3, k4⟩ := stores_box (off := pre.length + l * i.size) ys.flatten h 0 _ hbox hp (by rw [List.length_append, hfl, hyl]; omega)
      refine semW_storeCells _ _ _ _ _ k1 ?_
      refine hk _ c _ ⟨hlen, hall, g, pre, rest.drop (m * i.size), rfl, hbg, ⟨hroom, hlc.2⟩, ?_, ?_⟩ k3 (.inl rfl)
      · rw [setL_eq _ _ _ (by rw [List.length_append, hfl, hyl]; omega), Nat.add_zero, ← hxl, ← List.append_assoc, ← List.length_append, List.take_left, List.drop_append, hyl] at k2
        rw [List.drop_of_length_le (by omega), List.nil_append, show (pre ++ xs.flatten).length + m * i.size - (pre ++ xs.flatten).length = m * i.size by omega] at k2
        rw [List.flatten_append]
        rw [List.length_append, hxl] at k2
        simp only [List.append_assoc] at k2 ⊢
        exact k2
      · rw [List.length_drop, hr, ← Nat.sub_mul]; congr 1; omega
  · have hcap : ¬ 281474976710656 < Builtin.nextslicecap (l + m) c * i.bytes := by
      have h1 := nextcap_le (need := l + m) (old := c) (by omega)
      have h2 := Nat.mul_le_mul_right i.bytes h1
      have h3 : (2:Nat) ^ 48 = 281474976710656 := rfl
      omega
    have hbig : ¬ (9223372036854775807 < (l : Int) + (m : Int) ∧ i.bytes = 0) := by
      have h3 : (2:Nat) ^ 48 = 281474976710656 := rfl
      omega
    simp [Builtin.append_, semW_bind', semW_underlying ht, semW_sizeOf hi, cellsOf_info hi, Builtin.lenOf, Builtin.firstCells, hroom, semW_typeInfo hi, semW_zeroValue hz', askRoom, hbig, hcap]
    intro tt
    have hge := cut_cap (l + m) c e tt
    generalize (Question.appendCap (l + m) c e).cut tt = nc at hge
    show semW P (if roomBytes < nc * i.bytes then mark Mark.noRoom else pure ()) h _
    have hroomy : ∀ K' : Unit → Hp → Prop, K' () h → semW P (if roomBytes < nc * i.bytes then mark Mark.noRoom else pure ()) h K' := by
      intro K' hk'
      split
      · exact hk'
      · exact hk'
    refine hroomy _ ?_
    have hold : ∀ K' : Array Value → Hp → Prop, K' xs.flatten.toArray h → semW P (match Value.slice p l c with
        | Value.slice (some a) len cap => loadCells a (l * i.size)
        | Value.slice none len cap => pure #[]
        | Value.string s => pure ((Array.map (fun b => Value.int IntKind.u8 ↑b.toNat) s.data).extract 0 l)
        | x => stuck "slice or string expected") h K' := by
      intro K' hk'
      cases p with
      | none =>
        have : xs = [] := s.2.2.2
        subst this
        exact hk'
      | some a1 =>
        obtain ⟨g, pre, rest, rfl, hbg, hlc, hbox, hr⟩ := s.2.2
        refine semW_loadCells hxl (hbox.cells _ ?_) _ hk'
        rw [List.drop_left, List.take_left]
    refine hold _ ?_
    refine semW_loadCells hyl hc _ ?_
    rw [semW_map]
    refine hk (some ⟨h.size, 0, none⟩) nc _ ⟨hlen, hall, h.size, [], (Builtin.zeroCells z.cells (nc - (l + m))).toList, rfl, hb, ⟨hge.1, hge.2 (by omega)⟩, ?_, ?_⟩ ((Ext.push h _).mono (by simp)) (.inr ⟨_, rfl, Nat.le_refl _⟩)
    · have e1 : xs.flatten.toArray ++ (ys.flatten.toArray ++ Builtin.zeroCells z.cells (nc - (l + m))) = ((xs ++ ys).flatten ++ (Builtin.zeroCells z.cells (nc - (l + m))).toList).toArray := by
        apply Array.toList_inj.1; simp
      rw [e1]
      exact Box.new h e _
    · rw [Array.length_toList, zeroCells_size, hzs]
/-- append of one element, where something is asked to be as it was in between. -/
theorem push_st {L : Lp} {K : Value → Hp → Prop} {k : Option Addr → Nat → Nat → T} {t ty e : TypeId} {z : Value} {sz by' : Nat} {st : List (Addr × List Value)} (ht : P.underlying t = some (.slice e)) (hinf : (P.info? e).map (fun i => (i.zero, i.size, i.bytes)) = some (some z, sz, by'))
    (hzs : z.cells.size = sz) (hs0 : sz ≠ 0) (hsm : sz ≤ 4096) {v : Value} {vs : List Value} (hf : Instr.fill (fun j => some (j * sz, sz)) ((Array.range (1 * sz)).map (z.cells[· % z.cells.size]!)) [(0, v)] = some vs.toArray) (hvl : vs.length = sz) (hpl : vs.all plainV = true)
    {b : Nat} {p : Option Addr} {l c : Nat} {xs : List (List Value)} (s : SL h b e sz p l c xs) (hb : b ≤ h.size) (hby : (2 * (l + 1) + 1024) * by' ≤ 2 ^ 48) (hl : l + 1 ≤ 2 ^ 48) (hst : ∀ h', Ext h h' → T.stab h' st)
    (hk : ∀ p' c' h', SL h' b e sz p' (l + 1) c' (xs ++ [vs]) → Ch (blkOf p) h h' → (p' = p ∨ ∃ a, p' = some a ∧ h.size ≤ a.block) → k p' (l + 1) c' L K h') :
    T.sem P (Instr.buildSlice t 1 #[(0, v)]) false [(false, [.slice 0])] (fun q m cc => T.stable st (T.sem P (Builtin.append_ #[t, t] ty #[.slice p l c, .slice q m cc]) false [(false, [.slice 0])] k)) L K h := by
  obtain ⟨i, hi, hz, rfl, rfl⟩ := inf_of hinf
  refine sem_slice (buildSlice_of ht hi hz (by omega) (by omega) hf ?_)
  intro h1 b1 e1 z1
  refine ⟨_, _, _, rfl, hst _ e1, sem_slice ?_⟩
  have s1 : SL h1 b e i.size p l c xs := s.keep e1 (by simp)
  refine append_of (ys := [vs]) ht hi hz hzs s1 rfl (by simpa using hvl) (b1.cells _ (by simp)) (by simpa using hpl) (by simpa using hby) (by simpa using hl) (by rw [z1]; omega) ?_
  intro p' c' h2 s2 c2 hp'
  refine ⟨p', l + 1, c', rfl, hk p' c' h2 s2 (Ch.trans (e1.mono (by simp)) c2 (fun i hi _ => hi)) ?_⟩
  rcases hp' with hp' | ⟨a, ha, hge⟩
  · exact .inl hp'
  · exact .inr ⟨a, ha, by omega⟩
/-- A list is copied behind nothing. -/
theorem copy_of {L : Lp} {K : Value → Hp → Prop} {k : Option Addr → Nat → Nat → T} {t ty e : TypeId} {z : Value} {sz by' : Nat} (ht : P.underlying t = some (.slice e)) (hinf : (P.info? e).map (fun i => (i.zero, i.size, i.bytes)) = some (some z, sz, by'))
    (hzs : z.cells.size = sz) {b b' : Nat} {p : Option Addr} {l c : Nat} {xs : List (List Value)} (s : SL h b e sz p l c xs) (hpl : xs.flatten.all plainV = true) (hb : b' ≤ h.size) (hby : (2 * l + 1024) * by' ≤ 2 ^ 48) (hl : l ≤ 2 ^ 48)
    (hk : ∀ p' c' h', SL h' b' e sz p' l c' xs → Ext h h' → (p' = none ∨ ∃ a, p' = some a ∧ h.size ≤ a.block) → k p' l c' L K h') :
    T.sem P (Builtin.append_ #[t, t] ty #[.slice none 0 0, .slice p l c]) false [(false, [.slice 0])] k L K h := by
  obtain ⟨i, hi, hz, rfl, rfl⟩ := inf_of hinf
  refine sem_slice ?_
  have hx : xs.flatten.length = l * i.size := by rw [flatten_length _ s.2.1, ← s.1]
  cases p with
  | none =>
    have h1 : xs = [] := s.2.2.2
    have h2 : l = 0 := by rw [s.1, h1]; rfl
    have h3 : c = 0 := s.2.2.1
    subst h1 h2 h3
    simp [Builtin.append_, semW_bind', semW_underlying ht, semW_sizeOf hi, cellsOf_info hi, Builtin.lenOf, Builtin.firstCells]
    exact ⟨_, _, _, rfl, hk none 0 h (SL.nil _ _ _ _) (Ch.refl _ _) (.inl rfl)⟩
  | some a =>
    have hcl : cellsAt h a 0 xs.flatten := by
      obtain ⟨g, pre, rest, rfl, hbg, hlc, hbox, hr⟩ := s.2.2
      refine hbox.cells _ ?_
      rw [List.drop_left, List.take_left]
    have := append_of (P := P) (h := h) (K := fun v h' => ∃ p l c, v = .slice p l c ∧ k p l c L K h') (ty := ty) (ys := xs) ht hi hz hzs (SL.nil h b' e i.size) s.1 s.2.1 hcl hpl (by simpa using hby) (by simpa using hl) hb (cc := c) ?_
    · exact this
    · intro p' c' h2 s2 c2 hp'
      rw [Nat.zero_add] at s2 ⊢
      exact ⟨p', l, c', rfl, hk p' c' h2 s2 c2 hp'⟩
/-- A slice literal. -/
theorem lit_of {L : Lp} {K : Value → Hp → Prop} {k : Option Addr → Nat → Nat → T} {t e : TypeId} {n : Nat} {parts : Array (Nat × Value)} {z : Value} {sz by' : Nat} (ht : P.underlying t = some (.slice e)) (hinf : (P.info? e).map (fun i => (i.zero, i.size, i.bytes)) = some (some z, sz, by'))
    (hn : n * sz ≠ 0) (hb : n * sz ≤ 2 ^ 24) {cells : List Value} (hf : Instr.fill (fun j => some (j * sz, sz)) ((Array.range (n * sz)).map (z.cells[· % z.cells.size]!)) parts.toList = some cells.toArray)
    (hk : ∀ h', Box h' h.size e cells → Ext h h' → h'.size = h.size + 1 → k (some ⟨h.size, 0, none⟩) n n L K h') : T.sem P (Instr.buildSlice t n parts) false [(false, [.slice 0])] k L K h := by
  obtain ⟨i, hi, hz, rfl, rfl⟩ := inf_of hinf
  exact sem_slice (buildSlice_of ht hi hz hn hb hf fun h' b e z => ⟨_, _, _, rfl, hk h' b e z⟩)
/-- append of one element, as the code says it: a slice literal of one, then append. -/
theorem push_of {L : Lp} {K : Value → Hp → Prop} {k : Option Addr → Nat → Nat → T} {t ty e : TypeId} {z : Value} {sz by' : Nat} (ht : P.underlying t = some (.slice e)) (hinf : (P.info? e).map (fun i => (i.zero, i.size, i.bytes)) = some (some z, sz, by'))
    (hzs : z.cells.size = sz) (hs0 : sz ≠ 0) (hsm : sz ≤ 4096) {v : Value} {vs : List Value} (hf : Instr.fill (fun j => some (j * sz, sz)) ((Array.range (1 * sz)).map (z.cells[· % z.cells.size]!)) [(0, v)] = some vs.toArray) (hvl : vs.length = sz) (hpl : vs.all plainV = true)
    {b : Nat} {p : Option Addr} {l c : Nat} {xs : List (List Value)} (s : SL h b e sz p l c xs) (hb : b ≤ h.size) (hby : (2 * (l + 1) + 1024) * by' ≤ 2 ^ 48) (hl : l + 1 ≤ 2 ^ 48)
    (hk : ∀ p' c' h', SL h' b e sz p' (l + 1) c' (xs ++ [vs]) → Ch (blkOf p) h h' → (p' = p ∨ ∃ a, p' = some a ∧ h.size ≤ a.block) → k p' (l + 1) c' L K h') :
    T.sem P (Instr.buildSlice t 1 #[(0, v)]) false [(false, [.slice 0])] (fun q m cc => T.sem P (Builtin.append_ #[t, t] ty #[.slice p l c, .slice q m cc]) false [(false, [.slice 0])] k) L K h := by
  obtain ⟨i, hi, hz, rfl, rfl⟩ := inf_of hinf
  refine sem_slice (buildSlice_of ht hi hz (by omega) (by omega) hf ?_)
  intro h1 b1 e1 z1
  refine ⟨_, _, _, rfl, sem_slice ?_⟩
  have s1 : SL h1 b e i.size p l c xs := s.keep e1 (by simp)
  have hpb : ∀ a, p = some a → a.block < h.size := by
    intro a ha
    subst ha
    obtain ⟨g, pre, rest, rfl, hbg, hlc, hbox, hr⟩ := s.2.2
    exact hbox.lt
  refine append_of (ys := [vs]) ht hi hz hzs s1 rfl (by simpa using hvl) (b1.cells _ (by simp)) (by simpa using hpl) (by simpa using hby) (by simpa using hl) (by rw [z1]; omega) ?_
  intro p' c' h2 s2 c2 hp'
  refine ⟨p', l + 1, c', rfl, hk p' c' h2 s2 (Ch.trans (e1.mono (by simp)) c2 (fun i hi _ => hi)) ?_⟩
  rcases hp' with hp' | ⟨a, ha, hge⟩
  · exact .inl hp'
  · exact .inr ⟨a, ha, by omega⟩
end append
end Go.Sx
