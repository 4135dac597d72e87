/- A framework of our own, part A: heaps, a logic of the model's memory computations over heaps alone, calls over heaps. No condition. -/
import Derived.WalkKit
set_option linter.unusedVariables false
set_option linter.unusedSimpArgs false
set_option linter.deprecated false
namespace Go.Sx

abbrev Hp := Array Obj

def hcell (h : Hp) (a : Addr) : Option Value :=
  match h[a.block]? with
  | some (.cells c _ _) => if a.spot.isSome then none else c[a.off]?
  | _ => none

def hfrozen (h : Hp) (a : Addr) : Bool :=
  match h[a.block]? with
  | some (.cells _ _ (lo, hi)) => lo ≤ a.off && a.off < hi
  | _ => false

def hset (h : Hp) (a : Addr) (v : Value) : Hp :=
  h.modify a.block fun
    | .cells c elem frozen => .cells (if a.spot.isSome then c else c.setIfInBounds a.off v) elem frozen
    | o => o

def hshape (h : Hp) (r : Nat) : Option (TypeId × Nat) :=
  match h[r]? with
  | some (.cells c elem _) => some (elem, c.size)
  | _ => none

def hfreeze (h : Hp) (a : Addr) (n : Nat) : Hp :=
  if n = 0 then h else
  h.modify a.block fun
    | .cells c elem (lo, hi) => .cells c elem (if lo == hi then (a.off, a.off + n) else (min lo a.off, max hi (a.off + n)))
    | o => o

theorem cell_heap (w : World) (a : Addr) : w.cell? a = hcell w.heap a := rfl
theorem frozen_heap (w : World) (a : Addr) : w.frozen? a = hfrozen w.heap a := rfl
theorem set_heap (w : World) (a : Addr) (v : Value) : (w.setCell a v).heap = hset w.heap a v := rfl
theorem shape_heap (w : World) (r : Nat) : w.shape? r = hshape w.heap r := rfl
theorem freeze_heap (w : World) (a : Addr) (n : Nat) : (w.freeze a n).heap = hfreeze w.heap a n := by
  unfold World.freeze hfreeze; split <;> rfl

/-- All but the heap and the count of draws is the same. -/
structure SameO (w w' : World) : Prop where
  os : w'.os = w.os
  tape : w'.tape = w.tape
  output : w'.output = w.output
theorem SameO.refl (w : World) : SameO w w := ⟨rfl, rfl, rfl⟩
theorem SameO.trans {a b c : World} (h : SameO a b) (k : SameO b c) : SameO a c := ⟨k.os.trans h.os, k.tape.trans h.tape, k.output.trans h.output⟩
theorem SameO.freeze {w w₀ : World} (h : SameO w₀ w) (a : Addr) (n : Nat) : SameO w₀ (w.freeze a n) := by
  unfold World.freeze; split
  · exact h
  · exact ⟨h.os, h.tape, h.output⟩

/-- No single cell bears such a value. -/
def plainV : Value → Bool
  | .agg _ => false
  | .tuple _ => false
  | _ => true

/-- What a memory computation comes to, over the heap alone: whatever the tape says; no panic. -/
def semW (P : Program) {α : Type} : Sem α → Hp → (α → Hp → Prop) → Prop
  | .pure a, h, K => K a h
  | .load _ a k, h, K => ∃ v, hcell h a = some v ∧ semW P (k v) h K
  | .store _ a v k, h, K => plainV v = true ∧ (∃ u, hcell h a = some u) ∧ hfrozen h a = false ∧ semW P k (hset h a v) K
  | .new o k, h, K => semW P (k h.size) (h.push o) K
  | .shape r k, h, K => semW P (k (hshape h r)) h K
  | .freeze a n k, h, K => semW P k (hfreeze h a n) K
  | .frozen a k, h, K => semW P (k (hfrozen h a)) h K
  | .getObj r k, h, K => ∃ o, h[r]? = some o ∧ (∀ c e f, o ≠ .cells c e f) ∧ semW P (k o) h K
  | .setObj r o k, h, K => (∃ o', h[r]? = some o' ∧ ∀ c e f, o' ≠ .cells c e f) ∧ semW P k (h.setIfInBounds r o) K
  | .choose q k, h, K => if q.forced then semW P (k 0) h K else ∀ t, semW P (k (q.cut t)) h K
  | .sys _ _, _, _ => False
  | .program k, h, K => semW P (k P) h K
  | .mark _ k, h, K => semW P k h K
  | .halt _, _, _ => False

theorem semW_sound {P : Program} {α : Type} (s : Sem α) : ∀ (w : World) (K : α → Hp → Prop), semW P s w.heap K →
    ∃ a w', s.run P w = .ok a w' ∧ SameO w w' ∧ K a w'.heap := by
  induction s with
  | pure a => intro w K h; exact ⟨a, w, rfl, SameO.refl w, h⟩
  | load m a k ih =>
    intro w K h
    obtain ⟨v, hv, hk⟩ := h
    have : w.cell? a = some v := hv
    obtain ⟨x, w', h1, h2, h3⟩ := ih v w K hk
    exact ⟨x, w', by simp only [Sem.run, this, h1], h2, h3⟩
  | store m a v k ih =>
    intro w K h
    obtain ⟨hp, ⟨u, hu⟩, hf, hk⟩ := h
    have hu' : w.cell? a = some u := hu
    have hf' : w.frozen? a = false := hf
    obtain ⟨x, w', h1, h2, h3⟩ := ih (w.setCell a v) K hk
    refine ⟨x, w', ?_, ⟨h2.os, h2.tape, h2.output⟩, h3⟩
    cases v <;> first | (simp [plainV] at hp; done) | (simp only [Sem.run, hu', hf']; exact h1)
  | new o k ih =>
    intro w K h
    obtain ⟨x, w', h1, h2, h3⟩ := ih w.heap.size { w with heap := w.heap.push o } K h
    exact ⟨x, w', h1, ⟨h2.os, h2.tape, h2.output⟩, h3⟩
  | shape r k ih => intro w K h; exact ih _ w K h
  | freeze a n k ih =>
    intro w K h
    obtain ⟨x, w', h1, h2, h3⟩ := ih (w.freeze a n) K (by rw [freeze_heap]; exact h)
    exact ⟨x, w', h1, SameO.trans ((SameO.refl w).freeze a n) h2, h3⟩
  | frozen a k ih => intro w K h; exact ih _ w K h
  | getObj r k ih =>
    intro w K h
    obtain ⟨o, ho, hne, hk⟩ := h
    obtain ⟨x, w', h1, h2, h3⟩ := ih o w K hk
    refine ⟨x, w', ?_, h2, h3⟩
    simp only [Sem.run, ho]
    cases o <;> first | exact (hne _ _ _ rfl).elim | exact h1
  | setObj r o k ih =>
    intro w K h
    obtain ⟨⟨o', ho, hne⟩, hk⟩ := h
    obtain ⟨x, w', h1, h2, h3⟩ := ih { w with heap := w.heap.setIfInBounds r o } K hk
    refine ⟨x, w', ?_, ⟨h2.os, h2.tape, h2.output⟩, h3⟩
    simp only [Sem.run, ho]
    cases o' <;> first | exact (hne _ _ _ rfl).elim | exact h1
  | choose q k ih =>
    intro w K h
    simp only [semW] at h
    by_cases hq : q.forced = true
    · rw [if_pos hq] at h
      obtain ⟨x, w', h1, h2, h3⟩ := ih 0 w K h
      exact ⟨x, w', by simp only [Sem.run, if_pos hq]; exact h1, h2, h3⟩
    · rw [if_neg hq] at h
      obtain ⟨x, w', h1, h2, h3⟩ := ih (q.cut (w.tape w.drawn q)) { w with drawn := w.drawn + 1 } K (h _)
      exact ⟨x, w', by simp only [Sem.run, if_neg hq]; exact h1, ⟨h2.os, h2.tape, h2.output⟩, h3⟩
  | sys c k ih => intro w K h; exact h.elim
  | program k ih => intro w K h; exact ih P w K h
  | mark m k ih => intro w K h; exact ih w K h
  | halt x => intro w K h; exact h.elim

theorem semW_mono {P : Program} {α : Type} (s : Sem α) : ∀ (h : Hp) (K K' : α → Hp → Prop), (∀ a h, K a h → K' a h) → semW P s h K → semW P s h K' := by
  induction s with
  | pure a => intro h K K' m k; exact m _ _ k
  | load m a k ih => intro h K K' mo ⟨v, hv, hk⟩; exact ⟨v, hv, ih v h K K' mo hk⟩
  | store m a v k ih => intro h K K' mo ⟨h1, h2, h3, hk⟩; exact ⟨h1, h2, h3, ih _ K K' mo hk⟩
  | new o k ih => intro h K K' mo hk; exact ih _ _ K K' mo hk
  | shape r k ih => intro h K K' mo hk; exact ih _ _ K K' mo hk
  | freeze a n k ih => intro h K K' mo hk; exact ih _ K K' mo hk
  | frozen a k ih => intro h K K' mo hk; exact ih _ _ K K' mo hk
  | getObj r k ih => intro h K K' mo ⟨o, h1, h2, hk⟩; exact ⟨o, h1, h2, ih _ _ K K' mo hk⟩
  | setObj r o k ih => intro h K K' mo ⟨h1, hk⟩; exact ⟨h1, ih _ K K' mo hk⟩
  | choose q k ih =>
    intro h K K' mo hk
    simp only [semW] at hk ⊢
    split
    · rename_i hq; rw [if_pos hq] at hk; exact ih _ _ K K' mo hk
    · rename_i hq; rw [if_neg hq] at hk; exact fun t => ih _ _ K K' mo (hk t)
  | sys c k ih => intro h K K' mo hk; exact hk.elim
  | program k ih => intro h K K' mo hk; exact ih _ _ K K' mo hk
  | mark m k ih => intro h K K' mo hk; exact ih _ K K' mo hk
  | halt x => intro h K K' mo hk; exact hk.elim

theorem semW_bind {P : Program} {α β : Type} (s : Sem α) (f : α → Sem β) : ∀ (h : Hp) (K : β → Hp → Prop),
    semW P (s.bind f) h K = semW P s h (fun a h' => semW P (f a) h' K) := by
  induction s with
  | pure a => intro h K; rfl
  | load m a k ih => intro h K; simp only [Sem.bind, semW, ih]
  | store m a v k ih => intro h K; simp only [Sem.bind, semW, ih]
  | new o k ih => intro h K; simp only [Sem.bind, semW, ih]
  | shape r k ih => intro h K; simp only [Sem.bind, semW, ih]
  | freeze a n k ih => intro h K; simp only [Sem.bind, semW, ih]
  | frozen a k ih => intro h K; simp only [Sem.bind, semW, ih]
  | getObj r k ih => intro h K; simp only [Sem.bind, semW, ih]
  | setObj r o k ih => intro h K; simp only [Sem.bind, semW, ih]
  | choose q k ih => intro h K; simp only [Sem.bind, semW, ih]
  | sys c k ih => intro h K; rfl
  | program k ih => intro h K; simp only [Sem.bind, semW, ih]
  | mark m k ih => intro h K; simp only [Sem.bind, semW, ih]
  | halt x => intro h K; rfl
theorem semW_bind' {P : Program} {α β : Type} (s : Sem α) (f : α → Sem β) (h : Hp) (K : β → Hp → Prop) :
    semW P (s >>= f) h K = semW P s h (fun a h' => semW P (f a) h' K) := semW_bind s f h K
theorem semW_pure {P : Program} {α : Type} (a : α) (h : Hp) (K : α → Hp → Prop) : semW P (pure a) h K = K a h := rfl

/-- A call, over heaps: whatever else the world holds. -/
def HC (P : Program) (f : FuncId) (args : Array Value) (h : Hp) (R : Value → Hp → Prop) : Prop :=
  ∀ w : World, w.heap = h → Calls P f args w fun e w' => ∃ v, e = .returned v ∧ SameO w w' ∧ R v w'.heap
theorem HC.mono {P : Program} {f : FuncId} {args : Array Value} {h : Hp} {R R' : Value → Hp → Prop} (hc : HC P f args h R) (m : ∀ v h', R v h' → R' v h') :
    HC P f args h R' := fun w hw => (hc w hw).mono fun e w' ⟨v, h1, h2, h3⟩ => ⟨v, h1, h2, m _ _ h3⟩

/-- What an operation comes to. -/
def nextK (P : Program) (K : Value → Hp → Prop) : Next → Hp → Prop
  | .value v, h => K v h
  | .skip, h => K undef h
  | .enter f args, h => HC P f args h K
  | _, _ => False
theorem nextK_mono {P : Program} {K K' : Value → Hp → Prop} (m : ∀ v h, K v h → K' v h) (n : Next) (h : Hp) (hk : nextK P K n h) : nextK P K' n h := by
  cases n <;> simp only [nextK] at hk ⊢ <;> first | exact m _ _ hk | exact hk.mono m
def opW (P : Program) (o : Oper) (ev : Operand → Value) (h : Hp) (K : Value → Hp → Prop) : Prop := semW P (execOp ev o) h (nextK P K)
theorem opW_mono {P : Program} {o : Oper} {ev : Operand → Value} {h : Hp} {K K' : Value → Hp → Prop} (m : ∀ v h, K v h → K' v h) (hk : opW P o ev h K) :
    opW P o ev h K' := semW_mono _ _ _ _ (nextK_mono m) hk

/-- From the heap to the world: an operation's step. -/
theorem wp_of_opW {P : Program} {o : Oper} {a : Act} {w : World} {K : Value → Hp → Prop} {next : Act → World → Prop} {Q : Exit → Act → World → Prop}
    (hk : opW P o a.eval w.heap K) (hn : ∀ v w', SameO w w' → K v w'.heap → next (a.put o.dst v) w') : o.wp P a w next Q := by
  obtain ⟨n, w', h1, h2, h3⟩ := semW_sound _ w _ hk
  unfold Oper.wp
  rw [h1]
  cases n <;> simp only [nextK] at h3
  case value v => exact hn v w' h2 h3
  case skip => exact hn undef w' h2 h3
  case enter f args =>
    exact (h3 w' rfl).mono fun e w'' ⟨v, he, hs, hr⟩ => by subst he; exact hn v w'' (h2.trans hs) hr

/-- Code, over heaps. -/
def cW (P : Program) (c : Code) (Q : Exit → Act → Hp → Prop) (a : Act) (h : Hp) : Prop :=
  ∀ w0 w : World, SameO w0 w → w.heap = h → c.wp P (fun e a' w' => SameO w0 w' ∧ Q e a' w'.heap) a w
theorem cW_mono {P : Program} {c : Code} {Q Q' : Exit → Act → Hp → Prop} {a : Act} {h : Hp} (m : ∀ e a h, Q e a h → Q' e a h) (hc : cW P c Q a h) : cW P c Q' a h :=
  fun w0 w hs hw => Code.wp_mono (fun _ _ _ ⟨h1, h2⟩ => ⟨h1, m _ _ _ h2⟩) (hc w0 w hs hw)
theorem cW_skip {P : Program} {Q : Exit → Act → Hp → Prop} {a : Act} {h : Hp} (hq : Q .normal a h) : cW P .skip Q a h := fun w0 w hs hw => wp_skip ⟨hs, hw ▸ hq⟩
theorem cW_label {P : Program} {Q : Exit → Act → Hp → Prop} {a : Act} {h : Hp} {l : Nat} (hq : Q .normal a h) : cW P (.label l) Q a h := fun w0 w hs hw => wp_label ⟨hs, hw ▸ hq⟩
theorem cW_exit {P : Program} {Q : Exit → Act → Hp → Prop} {a : Act} {h : Hp} {i : Nat} (hq : Q (.exit i) a h) : cW P (.exit i) Q a h := fun w0 w hs hw => wp_exit ⟨hs, hw ▸ hq⟩
theorem cW_goto {P : Program} {Q : Exit → Act → Hp → Prop} {a : Act} {h : Hp} {i : Nat} (hq : Q (.goto i) a h) : cW P (.goto i) Q a h := fun w0 w hs hw => wp_goto ⟨hs, hw ▸ hq⟩
theorem cW_ret {P : Program} {Q : Exit → Act → Hp → Prop} {a : Act} {h : Hp} (hq : Q .ret a h) : cW P .ret Q a h := fun w0 w hs hw => wp_ret ⟨hs, hw ▸ hq⟩
def thenQ (next : Act → Hp → Prop) (Q : Exit → Act → Hp → Prop) : Exit → Act → Hp → Prop
  | .normal, a, h => next a h
  | e, a, h => Q e a h
theorem cW_seq {P : Program} {x y : Code} {Q : Exit → Act → Hp → Prop} {a : Act} {h : Hp} (hx : cW P x (thenQ (cW P y Q) Q) a h) : cW P (.seq x y) Q a h :=
  fun w0 w hs hw => wp_seq (Code.wp_mono (fun e a' w' ⟨h1, h2⟩ => by
    cases e <;> first | exact h2 w0 w' h1 rfl | exact ⟨h1, h2⟩) (hx w0 w hs hw))
theorem cW_cond {P : Program} {c : Operand} {x y : Code} {b : Bool} {Q : Exit → Act → Hp → Prop} {a : Act} {h : Hp} (hc : a.eval c = .bool b)
    (ht : b = true → cW P x Q a h) (hf : b = false → cW P y Q a h) : cW P (.cond c x y) Q a h :=
  fun w0 w hs hw => wp_cond_split hc (fun e => ht e w0 w hs hw) (fun e => hf e w0 w hs hw)
def inBlockQ (id : Nat) (Q : Exit → Act → Hp → Prop) : Exit → Act → Hp → Prop
  | .exit id', a, h => if id' = id then Q .normal a h else Q (.exit id') a h
  | e, a, h => Q e a h
theorem cW_block {P : Program} {id : Nat} {c : Code} {Q : Exit → Act → Hp → Prop} {a : Act} {h : Hp} (hc : cW P c (inBlockQ id Q) a h) : cW P (.block id c) Q a h :=
  fun w0 w hs hw => wp_block (Code.wp_mono (fun e a' w' ⟨h1, h2⟩ => by
    cases e <;> first
      | (simp only [Exit.inBlock, inBlockQ] at h2 ⊢; split <;> rename_i hh <;> simp only [hh, if_true, if_false] at h2 <;> exact ⟨h1, h2⟩)
      | exact ⟨h1, h2⟩) (hc w0 w hs hw))
theorem cW_loop {P : Program} {c : Code} {Q : Exit → Act → Hp → Prop} {a : Act} {h : Hp} (I : Nat → Act → Hp → Prop) (h0 : ∃ n, I n a h)
    (round : ∀ n a h, I n a h → cW P c (thenQ (fun a' h' => ∃ m, m < n ∧ I m a' h') Q) a h) : cW P (.loop c) Q a h := by
  intro w0 w hs hw
  have key : ∀ n a w, SameO w0 w → I n a w.heap → (Code.loop c).wp P (fun e a' w' => SameO w0 w' ∧ Q e a' w'.heap) a w := by
    intro n a w hs hI
    have := wp_loop (P := P) (c := c) (a := a) (w := w) (Q := fun e a' w' => SameO w0 w' ∧ Q e a' w'.heap)
      (fun a w => ∃ n, SameO w0 w ∧ I n a w.heap)
      (fun a w => by
        classical
        exact if hx : ∃ n, I n a w.heap then Classical.choose (show ∃ n, I n a w.heap ∧ ∀ m, I m a w.heap → n ≤ m from by
          obtain ⟨n, hn⟩ := hx
          induction n using Nat.strongRecOn with
          | _ n ih =>
            by_cases hh : ∃ m, m < n ∧ I m a w.heap
            · obtain ⟨m, hm, hm2⟩ := hh; exact ih m hm hm2
            · exact ⟨n, hn, fun m hm => Nat.le_of_not_lt fun hlt => hh ⟨m, hlt, hm⟩⟩) else 0)
      ⟨n, hs, hI⟩
      (by
        rintro a w ⟨n0, hs1, hI1⟩
        have hx : ∃ n, I n a w.heap := ⟨n0, hI1⟩
        have hspec := Classical.choose_spec (show ∃ n, I n a w.heap ∧ ∀ m, I m a w.heap → n ≤ m from by
          obtain ⟨n, hn⟩ := hx
          induction n using Nat.strongRecOn with
          | _ n ih =>
            by_cases hh : ∃ m, m < n ∧ I m a w.heap
            · obtain ⟨m, hm, hm2⟩ := hh; exact ih m hm hm2
            · exact ⟨n, hn, fun m hm => Nat.le_of_not_lt fun hlt => hh ⟨m, hlt, hm⟩⟩)
        rw [dif_pos hx]
        refine Code.wp_mono ?_ (round _ a w.heap hspec.1 w0 w hs1 rfl)
        intro e a' w' ⟨h1, h2⟩
        cases e <;> first
          | exact ⟨h1, h2⟩
          | (obtain ⟨m, hm, hIm⟩ := h2
             refine ⟨⟨m, h1, hIm⟩, ?_⟩
             have hx' : ∃ n, I n a' w'.heap := ⟨m, hIm⟩
             rw [dif_pos hx']
             refine Nat.lt_of_le_of_lt ?_ hm
             exact (Classical.choose_spec (show ∃ n, I n a' w'.heap ∧ ∀ m, I m a' w'.heap → n ≤ m from by
              obtain ⟨n, hn⟩ := hx'
              induction n using Nat.strongRecOn with
              | _ n ih =>
                by_cases hh : ∃ m, m < n ∧ I m a' w'.heap
                · obtain ⟨m, hm, hm2⟩ := hh; exact ih m hm hm2
                · exact ⟨n, hn, fun m hm => Nat.le_of_not_lt fun hlt => hh ⟨m, hlt, hm⟩⟩)).2 m hIm))
    exact this
  obtain ⟨n, hn⟩ := h0
  exact key n a w hs (hw ▸ hn)

/-- A function's call out of its body. -/
theorem HC_of_cW {P : Program} {f : FuncId} {fn : Func} {c : Code} {args : Array Value} {h : Hp} {R : Value → Hp → Prop}
    (hf : P.funcs[f]? = some fn) (hb : fn.body = some c)
    (hc : cW P c (fun e a h' => (e = .normal ∨ e = .ret) ∧ a.defers = [] ∧ semW P (results fn a.tmps) h' R) { tmps := args ++ Array.replicate (fn.ntmps - args.size) undef, defers := [] } h)
    (hq : ∀ (tmps : Array Value) (w : World) v w', (results fn tmps).run P w = .ok v w' → w' = w) : HC P f args h R := by
  intro w hw
  refine calls_of_wp hf hb (Code.wp_mono ?_ (hc w w (SameO.refl w) hw))
  rintro e a w' ⟨h1, he, h2, h3⟩
  obtain ⟨v, w'', hr, hs, hR⟩ := semW_sound _ w' _ h3
  have := hq _ _ _ _ hr
  subst this
  rcases he with rfl | rfl
  · exact ⟨h2, v, hr, v, rfl, h1, hR⟩
  · exact ⟨h2, v, hr, v, rfl, h1, hR⟩
end Go.Sx
