/- Helpers for walking a law that holds a range over a function: boxes, calls over heaps inside a fence, the marks that such loops leave. No condition. -/
import Derived.Test.YtpbjlnlekobodaaDoorLineG
import Derived.Test.YtpbjlnlekobodaaDoorFrameG
import Derived.RangeFuncFrom
import Derived.IntWalk
set_option linter.unusedVariables false
set_option linter.unusedSimpArgs false
set_option linter.deprecated false
set_option maxRecDepth 100000
namespace Go.Proofs
open Go.RowKit Go.Shelf
attribute [local go_sem] Oper.semAt_some
theorem und59 : ∃ p r v, Tryd.prog.underlying 59 = some (.func p r v) := by
  have hb : (match Tryd.prog.underlying 59 with | some (.func _ _ _) => true | _ => false) = true := by kernel_rfl
  split at hb
  · rename_i p r v h
    exact ⟨p, r, v, h⟩
  · cases hb
theorem run_equalIn_func (d : Nat) (w : World) (f : Fn) (a b : Array Value) : (Op.equalIn (d + 1) 59 (.func f a b) .nilFunc).run Tryd.prog w = .ok false w := by
  obtain ⟨p, r, v, h⟩ := und59
  simp [Op.equalIn, run_underlying h]
theorem run_equal_func (w : World) (f : Fn) (a b : Array Value) : (Op.equal 59 (.func f a b) .nilFunc).run Tryd.prog w = .ok false w := run_equalIn_func 9999 w f a b
theorem run_eql_func (w : World) (f : Fn) (a b : Array Value) : (binOp .eql 59 (.func f a b) .nilFunc).run Tryd.prog w = .ok (.bool false) w := by
  simp only [binOp]
  simp [run_equal_func w f a b]
attribute [local go_sem] run_eql_func
theorem box_below {W W' : World} {n B : Nat} {t : TypeId} {v : Value} (h : Boxed W B t v) (hb : Below n W W') (hn : B < n) : Boxed W' B t v := (hb.block B hn).trans h
/-- A call over heaps, inside the wide fence. -/
theorem calls_wide {n f : Nat} {args : Array Value} {W : World} {R : Value → Sx.Hp → Prop} {K : Ending → World → Prop} (h : Sx.HC Tryd.prog f args W.heap R) (he : ∀ v h', R v h' → Sx.Ext W.heap h') (hK : ∀ v w', Below W.heap.size W w' → R v w'.heap → K (.returned v) w') : Fence.wide.fn f ∧ CallsIn Fence.wide n Tryd.prog f args W K :=
  ⟨trivial, (callsIn_wide.2 (Sx.calls_of h he)).mono fun e w' ⟨v, hv, hb, hr⟩ => by subst hv; exact hK v w' hb hr⟩
/-- The marks that the loops over functions leave. -/
def Marks (b : Nat) (dl : List Deferred) (w : World) : Prop := ∃ Ds : List Nat, dl = Ds.map (fun D => { target := .collected D, args := #[] }) ∧ Ds.Nodup ∧ ∀ D ∈ Ds, b ≤ D ∧ w.heap[D]? = some (.deferred (some []))
theorem Marks.leaves {F : Fence} {n b : Nat} {P : Program} {fn : Func} {tmps : Array Value} {R : Ending → World → Prop} {dl : List Deferred} {w : World} (h : Marks b dl w) (hK : ∀ w' : World, Below b w w' → (∀ B : Nat, w.heap[B]? ≠ some (Obj.deferred (some [])) → w'.heap[B]? = w.heap[B]?) → LeavesIn F n P fn tmps R [] .returning w') : LeavesInM F n P fn tmps R dl .returning w := by
  obtain ⟨Ds, rfl, hn, hD⟩ := h
  induction Ds generalizing w with
  | nil => exact hK w (Below.refl _ _) (fun _ _ => rfl)
  | cons D Ds ih =>
    obtain ⟨hnD, hn⟩ := List.nodup_cons.1 hn
    obtain ⟨hb, hd⟩ := hD D (List.mem_cons_self ..)
    have hlt : D < w.heap.size := (Array.getElem?_eq_some_iff.1 hd).1
    have hput : ∀ B, B ≠ D → (w.putObj D (.deferred none)).heap[B]? = w.heap[B]? := fun B hB => by
      simp only [World.putObj]
      rw [Array.getElem?_setIfInBounds_ne (Ne.symm hB)]
    refine ⟨by simp, .inl ⟨D, _, rfl, run_takeDeferred hd, ih (fun w' hb' hk' => hK w' ?_ fun B hB => ?_) hn (fun E hE => ?_)⟩⟩
    · refine Below.trans (b := w.putObj D (.deferred none)) ⟨rfl, rfl, rfl, ?_, fun k hk => hput k (by omega)⟩ hb'
      simp [World.putObj]
    · have hBD : B ≠ D := fun e => hB (by rw [e]; exact hd)
      rw [hk' B (by rw [hput B hBD]; exact hB), hput B hBD]
    · obtain ⟨h1, h2⟩ := hD E (List.mem_cons_of_mem _ hE)
      exact ⟨h1, (hput E (fun e => hnD (e ▸ hE))).trans h2⟩
theorem Marks.below {b : Nat} {dl : List Deferred} {w w' : World} (h : Marks b dl w) (hb : Below w.heap.size w w') : Marks b dl w' := by
  obtain ⟨Ds, e, hn, hD⟩ := h
  exact ⟨Ds, e, hn, fun D hd => ⟨(hD D hd).1, (hb.block D ((Array.getElem?_eq_some_iff.1 (hD D hd).2).1)).trans (hD D hd).2⟩⟩
theorem Marks.keeps {b : Nat} {dl : List Deferred} {w w' : World} (h : Marks b dl w) (hb : KeepsOthers w w') : Marks b dl w' := by
  obtain ⟨Ds, e, hn, hD⟩ := h
  exact ⟨Ds, e, hn, fun D hd => ⟨(hD D hd).1, hb.same D _ (hD D hd).2 rfl⟩⟩
def SaveFor (n x : Nat) (w w' : World) : Prop := w.heap.size ≤ w'.heap.size ∧ ∀ k, k < n → k ≠ x → w'.heap[k]? = w.heap[k]?
theorem saveFor_own {β : Type} {n x B : Nat} {w : World} (hB : n ≤ B) (hn : n ≤ w.heap.size) : OwnFrom B (fun (_ : β) W => SaveFor n x w W) := fun s A C row hs hg hr => by
  refine ⟨Nat.le_trans hs.1 hg.size, fun k hk hx => (hg.block k (by have := hs.1; omega) (fun e => ?_)).trans (hs.2 k hk hx)⟩
  have := (hr k e.symm).1
  omega
theorem SaveFor.set {n x : Nat} {w w' : World} (h : Below n w w') (hn : n ≤ w.heap.size) (v : Value) : SaveFor n x w (w'.setCell ⟨x, 0, none⟩ v) :=
  ⟨by simpa using h.size, fun k hk hx => ((grownBy_setCell' w' x v).block k (by have := h.size; omega) (fun e => hx (by cases e; rfl))).trans (h.block k hk)⟩
theorem Marks.save {b x : Nat} {dl : List Deferred} {w w' : World} (h : Marks b dl w) (hx : x < b) (hs : SaveFor w.heap.size x w w') : Marks b dl w' := by
  obtain ⟨Ds, e, hn, hD⟩ := h
  exact ⟨Ds, e, hn, fun D hd => ⟨(hD D hd).1, (hs.2 D (Array.getElem?_eq_some_iff.1 (hD D hd).2).1 (by have := (hD D hd).1; omega)).trans (hD D hd).2⟩⟩
theorem Marks.cons {b D : Nat} {dl : List Deferred} {w : World} (h : Marks b dl w) (hD : b ≤ D) (hK : w.heap[D]? = some (.deferred (some []))) (hne : ∀ E, ({ target := .collected E, args := #[] } : Deferred) ∈ dl → E ≠ D) : Marks b ({ target := .collected D, args := #[] } :: dl) w := by
  obtain ⟨Ds, rfl, hn, hd⟩ := h
  refine ⟨D :: Ds, rfl, List.nodup_cons.2 ⟨fun hm => hne D (List.mem_map.2 ⟨D, hm, rfl⟩) rfl, hn⟩, fun E hE => ?_⟩
  rcases List.mem_cons.1 hE with rfl | hE
  · exact ⟨hD, hK⟩
  · exact hd E hE
theorem sl_at {h : Sx.Hp} {b l c : Nat} {p : Option Addr} {xs : List ByteArray} (sl : Sx.SL h b 9 1 p l c (xs.map Sx.enS)) {k : Nat} {x : ByteArray} (hk : xs[k]? = some x) : ∃ g o, p = some ⟨g, o, none⟩ ∧ b ≤ g ∧ g < h.size ∧ Sx.hcell h ⟨g, o + k, none⟩ = some (.string x) := by
  have hf : ∀ ys : List ByteArray, (ys.map Sx.enS).flatten = ys.map Value.string := by
    intro ys
    induction ys with
    | nil => rfl
    | cons y ys ih => rw [List.map_cons, List.flatten_cons, ih, List.map_cons]; rfl
  obtain ⟨h1, h2, h3⟩ := sl
  cases p with
  | none =>
    have : xs = [] := by simpa using h3.2
    rw [this] at hk
    simp at hk
  | some a =>
    obtain ⟨g, pre, rest, rfl, hbg, hlc, hbox, hr⟩ := h3
    refine ⟨g, pre.length, rfl, hbg, hbox.lt, ?_⟩
    rw [hbox.cell, hf, List.getElem?_append_right (by omega), Nat.add_sub_cancel_left, List.getElem?_append_left (by have := (List.getElem?_eq_some_iff.1 hk).1; simp; omega), List.getElem?_map, hk]
    rfl
theorem Marks.more {b D : Nat} {dl : List Deferred} {w w' w'' : World} (h : Marks b dl w) (hbw : b ≤ w.heap.size) (hD : w.heap.size ≤ D) (hb' : Below w'.heap.size w' w'') (hb : Below w.heap.size w w') (hK : w'.heap[D]? = some (.deferred (some []))) : Marks b ({ target := .collected D, args := #[] } :: dl) w'' := by
  obtain ⟨Ds, rfl, hn, hd⟩ := h
  have hDl : D < w'.heap.size := (Array.getElem?_eq_some_iff.1 hK).1
  refine ⟨D :: Ds, rfl, List.nodup_cons.2 ⟨fun hm => ?_, hn⟩, fun E hE => ?_⟩
  · have := (Array.getElem?_eq_some_iff.1 (hd D hm).2).1
    omega
  · rcases List.mem_cons.1 hE with rfl | hE
    · exact ⟨by omega, (hb'.block _ hDl).trans hK⟩
    · obtain ⟨h1, h2⟩ := hd E hE
      have h3 := (Array.getElem?_eq_some_iff.1 h2).1
      have := hb.size
      exact ⟨h1, (hb'.block E (by omega)).trans ((hb.block E h3).trans h2)⟩
theorem calls_round {n f l : Nat} {args : Array Value} {W : World} {R : Value → Sx.Hp → Prop} {K : Ending → World → Prop} (h : Sx.HC Tryd.prog f args W.heap R) (he : ∀ v h', R v h' → Sx.Ext W.heap h') (hK : ∀ v w', Below W.heap.size W w' → R v w'.heap → K (.returned v) w') : (Fence.wide.inRound l).fn f ∧ CallsIn (Fence.wide.inRound l) n Tryd.prog f args W K :=
  ⟨trivial, (CallsIn.inRound l (callsIn_wide.2 (Sx.calls_of h he))).mono fun e w' ⟨v, hv, hb, hr⟩ => by subst hv; exact hK v w' hb hr⟩
theorem ext_below {W W' : World} (h : Below W.heap.size W W') : Sx.Ext W.heap W'.heap := ⟨h.size, fun i hi _ => h.block i hi⟩
theorem keeps_below {W W' : World} (h : Below W.heap.size W W') : KeepsOthers W W' := ⟨h.size, fun k o hk _ => (h.block k (Array.getElem?_eq_some_iff.1 hk).1).trans hk⟩
theorem laid_below {W W' : World} (hl : Sx.Laid W.heap) (h : Below W.heap.size W W') : Sx.Laid W'.heap := hl.ext (ext_below h)
theorem cell_lt {w : World} {a : Addr} {v : Value} (h : w.cell? a = some v) : a.block < w.heap.size := by
  unfold World.cell? at h
  split at h
  · rename_i hg; exact (Array.getElem?_eq_some_iff.1 hg).1
  · cases h
theorem cell_al {w : World} {a : Addr} {v : Value} (o : Obj) (h : w.cell? a = some v) : (w.alloc o).cell? a = some v := (((Below.refl w.heap.size w).alloc (Nat.le_refl _) o).cell (p := a) (cell_lt h)).trans h
theorem linesF_len : ∀ (f n : Nat) (s : ByteArray), (linesF f n s).length ≤ f
  | 0, _, _ => by simp [linesF]
  | f + 1, n, s => by
    unfold linesF
    split
    · simp
    · have := linesF_len f (n + 1) (cutB s)
      simp; omega
def turnLeft (i : Nat) (a : Act) (w : World) : Nat :=
  match a.tmps[i]? with
  | some (Value.pointer (some p)) => match w.cell? p with
    | some (.int _ x) => (2 - x).toNat
    | _ => 0
  | _ => 0
end Go.Proofs
