/- Contracts over heaps, and plain laws, for the functions that the laws of chapter 10 call, part 4: Readers over heaps: rows of things. Readers over heaps: rows of items, of equs, of names. Readers over heaps: a unit. Readers over heaps: reader.unit. Read over heaps. Units held against units, over heaps. Lists of units over heaps: are there too many things?; a number brought between two others. Names and sums that the document calls right, over heaps. Condition: as each statement says. -/
import Derived.Test.YtnjohginlglonaaGreatDoorP3
import Derived.Test.YtnjohginlglonaaGreatDoorZobjTa
import Derived.Test.YtnjohginlglonaaGreatDoorP1
import Derived.Test.YtnjohginlglonaaGreatDoorZrT
set_option linter.unusedVariables false
set_option linter.unusedSimpArgs false
set_option maxRecDepth 100000
namespace Go.Sx.Ob
open Go.Proofs
/-- So many things, one behind the other; what was read is kept in mind. -/
def manyR {α σ : Type} (one : σ → Bt → Rd α) (nx : σ → α → σ) : Nat → σ → Bt → Rd (List α)
  | 0, _, r => .ok ([], r)
  | n + 1, d, r => andR (one d r) fun x r => andR (manyR one nx n (nx d x) r) fun l r => .ok (x :: l, r)
theorem itemsR_many (sec : Nat) : ∀ (n : Nat) (D : List ByteArray), itemsR sec n D = manyR (itemR sec) addN n D
  | 0, D => rfl
  | n + 1, D => by
    funext r
    unfold itemsR manyR
    congr 1
    funext x r
    rw [itemsR_many sec n]
theorem equsR_many : ∀ (n : Nat) (D : List ByteArray), equsR n D = manyR equR (fun D x => x.1 :: D) n D
  | 0, D => rfl
  | n + 1, D => by
    funext r
    unfold equsR manyR
    congr 1
    funext x r
    rw [equsR_many n]
theorem globsR_many (D : List ByteArray) : ∀ (n : Nat) (o : ByteArray), globsR D n o = manyR (globR D) (fun _ x => x) n o
  | 0, D => rfl
  | n + 1, D => by
    funext r
    unfold globsR manyR
    congr 1
    funext x r
    rw [globsR_many _ n]
/-- A list in memory of its own, whose things have terms in memory of their own. -/
structure Ls {α : Type} (e : TypeId) (sz : Nat) (enc : Sli → α → List Value) (tm : α → Tms) (ok : α → Prop) (h : Hp) (b : Nat) (p : Option Addr) (l c : Nat) (us : List (Sli × α)) : Prop where
  sl : SL h b e sz p l c (us.map fun u => enc u.1 u.2)
  own : ∀ u, u ∈ us → SL h b 104 2 u.1.p u.1.l u.1.c ((tm u.2).map encT)
  ok : ∀ u, u ∈ us → ok u.2
section
variable {α : Type} {e : TypeId} {sz : Nat} {enc : Sli → α → List Value} {tm : α → Tms} {ok : α → Prop} {h h' : Hp} {b b' : Nat} {p : Option Addr} {l c : Nat} {us : List (Sli × α)}
theorem Ls.nil (h : Hp) (b : Nat) : Ls e sz enc tm ok h b none 0 0 [] := ⟨SL.nil _ _ _ _, by simp, by simp⟩
theorem SL.keepN {ws : List Nat} {h h' : Hp} {b : Nat} {e : TypeId} {sz : Nat} {p : Option Addr} {l c : Nat} {xs : List (List Value)} (s : SL h b e sz p l c xs) (k : Ch ws h h') (hw : ∀ i, i ∈ ws → i < h.size → i < b) : SL h' b e sz p l c xs :=
  Sx.SL.keep' s k (fun i hi hm => by have := Sx.SL.blk s hi; have := hw i hm this.2; omega)
theorem Ls.keep {ws : List Nat} (s : Ls e sz enc tm ok h b p l c us) (k : Ch ws h h') (hw : ∀ i, i ∈ ws → i < h.size → i < b) : Ls e sz enc tm ok h' b p l c us :=
  ⟨SL.keepN s.sl k hw, fun u hu => SL.keepN (s.own u hu) k hw, s.ok⟩
theorem Ls.mono (s : Ls e sz enc tm ok h b p l c us) (hb : b' ≤ b) : Ls e sz enc tm ok h b' p l c us :=
  ⟨Sx.SL.mono s.sl hb, fun u hu => Sx.SL.mono (s.own u hu) hb, s.ok⟩
theorem Ls.len (s : Ls e sz enc tm ok h b p l c us) : l = us.length := by rw [s.sl.1, List.length_map]
end
def rowsT (g : Nat) (most : Int) (loop : Int → T) : T :=
 T.osome (some ⟨g, 0, none⟩) <| fun (a3 : Addr) =>
 T.loads (a3.add 1) [.int .i64] <| fun (n4 : Int) =>
 T.call Tryz.prog 81 [.pointer (some ⟨g, 0, none⟩), .int .i64 (2 : Int)] false [(false, [.int .u32])] <| fun (n5 : Int) =>
 cond (decide (most ≥ (0 : Int)))
  (cond (decide ((IntKind.wrap .i64 n5) > most))
   (T.call Tryz.prog 49 [.pointer (some ⟨g, 0, none⟩), .int .i64 n4, .int .i64 (4 : Int)] true [] <| loop (IntKind.wrap .i64 n5))
   (loop (IntKind.wrap .i64 n5)))
  (loop (IntKind.wrap .i64 n5))
def rowsL (g : Nat) (one : Option Addr → Nat → Nat → (Option Addr → Nat → Nat → T) → T) (n : Int) : T :=
 T.loop [(false, [.int .i64]), (false, [.slice 0])] [.int .i64 n, .slice none 0 0] <| fun (n6 : Int) (p7 : Option Addr) (l8 : Nat) (l9 : Nat) =>
   cond (decide (n6 > (0 : Int)))
    (T.osome (some ⟨g, 0, none⟩) <| fun (a10 : Addr) =>
    T.loads (a10.add 2) [.pointer 59] <| fun (p11 : Option Addr) =>
    cond (match p11 with
    | some val => false
    | none => true)
     (one p7 l8 l9 fun p l c => T.again 0 [.int .i64 (IntKind.wrap .i64 (n6 - (1 : Int))), .slice p l c])
     (T.ret (.slice p7 l8 l9)))
    (T.ret (.slice p7 l8 l9))
def mostI : Option Nat → Int
  | none => -1
  | some m => m
theorem rowsL_of {α σ : Type} (o : σ → Bt → Rd α) (nx : σ → α → σ) {h0 h : Hp} {g gm : Nat} {bp : Option Addr} {bl bc : Nat} {full : Bt} (Inv : Hp → σ → St → Prop) (nm : σ → List ByteArray) (hInv : ∀ h d st, Inv h d st → RdS h g gm bp bl bc full st (nm d))
    {e : TypeId} {sz : Nat} {enc : Sli → α → List Value} {tm : α → Tms} {ok : α → Prop} {ws : List Nat} (hws : ∀ i, i ∈ ws → i < h.size)
    {one : Option Addr → Nat → Nat → (Option Addr → Nat → Nat → T) → T} {K : Value → Hp → Prop}
    (hone : ∀ {L : Lp} {h1 : Hp} {d : σ} {st : St} {p : Option Addr} {l c : Nat} {us : List (Sli × α)} {k : Option Addr → Nat → Nat → T}, Inv h1 d st → Ls e sz enc tm ok h1 h.size p l c us → us.length < 65535 → Ch ws h h1 →
      (∀ h2 x st2 s p' l' c', Inv h2 (nx d x) st2 → Stp (o d) st x st2 → Ls e sz enc tm ok h2 h.size p' l' c' (us ++ [(s, x)]) → Ch ws h h2 → k p' l' c' L K h2) → one p l c k L K h1)
    {d0 : σ} {st0 : St} {n : Nat} (hn : n ≤ 65535) (i0 : Inv h d0 st0) {L : Lp} (hL : L = [])
    (hk : ∀ h' us st' p l c, Ls e sz enc tm ok h' h.size p l c us → us.length ≤ n → Inv h' ((us.map (·.2)).foldl nx d0) st' → Stp (manyR o nx n d0) st0 (us.map (·.2)) st' → Ch ws h h' → K (.slice p l c) h') :
    rowsL g one n L K h := by
  subst hL
  unfold rowsL
  have hP0 : ∀ ts' st', Stp (manyR o nx n d0) st0 ts' st' → Stp (manyR o nx n d0) st0 ([] ++ ts') st' := fun ts' st' ht => ht
  refine loop_of (cs := [(false, [.int .i64]), (false, [.slice 0])]) (fun y m h' => ∃ (k : Nat) (us : List (Sli × α)) (st1 : St) (p : Option Addr) (l c : Nat), y = ((k : Int), (p, l, c), ()) ∧ m = k ∧ us.length + k = n ∧ Inv h' ((us.map (·.2)).foldl nx d0) st1 ∧ Ch ws h h' ∧ Ls e sz enc tm ok h' h.size p l c us ∧ ∀ ts' st', Stp (manyR o nx k ((us.map (·.2)).foldl nx d0)) st1 ts' st' → Stp (manyR o nx n d0) st0 (us.map (·.2) ++ ts') st') ((n : Int), (none, 0, 0), ()) n rfl
    ⟨n, [], st0, none, 0, 0, rfl, rfl, by simp, i0, Ch.refl _ _, Ls.nil _ _, hP0⟩ ?_
  clear hP0 i0
  rintro ⟨n6, ⟨p7, l8, l9⟩, ⟨⟩⟩ m h1 ⟨k, us, st1, p, l, c, hy, rfl, hus, i1, k1, ls, hP⟩
  cases hy
  dsimp only [flat, unc, unc1, List.nil_append, List.cons_append]
  have s1 := hInv _ _ _ i1
  refine cond_mk (fun q => ?_) (fun q => ?_)
  · have q := of_decide_eq_true q
    obtain ⟨at_, no, b, ha, mm, hgm, nn⟩ := id s1
    refine osome_mk rfl ?_
    rw [add_box]
    refine loads_box b (no, ()) rfl ?_
    dsimp only [flat, unc, unc1, List.nil_append, List.cons_append]
    cases st1 with
    | error er =>
      obtain ⟨_, a, rfl, _⟩ := nn
      refine cond_f rfl ?_
      have := hP [] (.error er) (Stp.off _ _ _)
      rw [List.append_nil] at this
      exact hk h1 us _ _ _ _ ls (by omega) i1 this k1
    | ok rr =>
      obtain ⟨rfl, _⟩ := nn
      refine cond_t rfl ?_
      refine hone i1 ls (by omega) k1 ?_
      intro h2 x st2 s p' l' c' i2 q2 ls2 k2
      rw [wrap_i64 (by omega) (by omega)]
      have hfold : ((us ++ [(s, x)]).map (·.2)).foldl nx d0 = nx ((us.map (·.2)).foldl nx d0) x := by
        rw [List.map_append, List.foldl_append]
        rfl
      refine again_mk (cs := [(false, [.int .i64]), (false, [.slice 0])]) (((m - 1 : Nat) : Int), (p', l', c'), ()) (m - 1) rfl (by omega) ?_ ?_
      · show [Value.int .i64 ((m : Int) - 1), Value.slice p' l' c'] = [Value.int .i64 ((m - 1 : Nat) : Int), Value.slice p' l' c']
        rw [show ((m - 1 : Nat) : Int) = (m : Int) - 1 by omega]
      · refine ⟨m - 1, us ++ [(s, x)], st2, p', l', c', rfl, rfl, by simp; omega, by rw [hfold]; exact i2, k2, ls2, ?_⟩
        intro ts' st' hst
        rw [hfold] at hst
        have := hP (x :: ts') st' (by
          obtain ⟨j, rfl⟩ : ∃ j, m = j + 1 := ⟨m - 1, by omega⟩
          exact Stp.and (f := o _) q2 (Stp.and (f := manyR o nx j _) hst (Stp.ret _ _)))
        rw [List.map_append, List.append_assoc]
        exact this
  · have q := of_decide_eq_false q
    have : m = 0 := by omega
    subst this
    have := hP [] st1 (Stp.ret _ _)
    rw [List.append_nil] at this
    exact hk h1 us _ _ _ _ ls (by omega) i1 this k1
theorem refS_err (full : Bt) (i why : Nat) (st : St) : ∃ e, refS full i why st = .error e := by
  cases st with
  | ok r => exact ⟨_, rfl⟩
  | error e => exact ⟨e, rfl⟩
theorem Stp.cnt {α : Type} {most : Option Nat} {f : Nat → Bt → Rd α} {st st1 st2 : St} {n : Nat} {x : α} (p : Stp (numR 2) st n st1) (ho : over most n = false) (h : Stp (f n) st1 x st2) : Stp (cntR most f) st x st2 := by
  cases st with
  | error e =>
    have p : st1 = .error e := p
    rw [p] at h
    exact h
  | ok r =>
    unfold Stp at p ⊢
    simp only at p ⊢
    unfold cntR
    cases hf : numR 2 r with
    | error e =>
      rw [hf] at p
      have p : st1 = .error e := p
      rw [p] at h
      exact h
    | ok q =>
      rw [hf] at p
      obtain ⟨rfl, p⟩ := p
      rw [p] at h
      obtain ⟨q1, q2⟩ := q
      rw [andR_okk, if_neg (by rw [show over most q1 = false from ho]; simp)]
      exact h
theorem Stp.many {α : Type} {most : Option Nat} {f : Nat → Bt → Rd α} {full : Bt} {fr : Nat} {st st1 : St} {n : Nat} (p : Stp (numR 2) st n st1) (ho : over most n = true) (hat : ∀ r, st = .ok r → full.length - fr = r.length) (x : α) : Stp (cntR most f) st x (refS full fr 4 st1) := by
  cases st with
  | error e =>
    have p : st1 = .error e := p
    rw [p]
    rfl
  | ok r =>
    unfold Stp at p ⊢
    simp only at p ⊢
    unfold cntR
    cases hf : numR 2 r with
    | error e =>
      rw [hf] at p
      have p : st1 = .error e := p
      rw [p]
      rfl
    | ok q =>
      rw [hf] at p
      obtain ⟨rfl, p⟩ := p
      obtain ⟨q1, q2⟩ := q
      rw [andR_okk, if_pos (show over most q1 = true from ho), p]
      show refS full fr 4 (.ok q2) = .error (r.length, 4)
      unfold refS
      simp only
      rw [hat r rfl]
theorem rowsT_of {α σ : Type} (o : σ → Bt → Rd α) (nx : σ → α → σ) {h0 h : Hp} (e0 : Ext h0 h) {g gm : Nat} (hg0 : h0.size ≤ g) {bp : Option Addr} {bl bc : Nat} {full : Bt} (v : VwB h0 bp bl full) (hl : full.length ≤ 2 ^ 60) (Inv : Hp → σ → St → Prop) (nm : σ → List ByteArray) (hInv : ∀ h d st, Inv h d st → RdS h g gm bp bl bc full st (nm d))
    (hmv : ∀ h h' d st st', Inv h d st → RdS h' g gm bp bl bc full st' (nm d) → Ch [g] h h' → Inv h' d st')
    {e : TypeId} {sz : Nat} {enc : Sli → α → List Value} {tm : α → Tms} {ok : α → Prop} {ws : List Nat} (hws : ∀ i, i ∈ ws → i < h.size) (hgw : g ∈ ws)
    {one : Option Addr → Nat → Nat → (Option Addr → Nat → Nat → T) → T} {K : Value → Hp → Prop}
    (hone : ∀ {L : Lp} {h3 h1 : Hp} {d : σ} {st : St} {p : Option Addr} {l c : Nat} {us : List (Sli × α)} {k : Option Addr → Nat → Nat → T}, Ch ws h h3 → Inv h1 d st → Ls e sz enc tm ok h1 h3.size p l c us → us.length < 65535 → Ch ws h3 h1 →
      (∀ h2 x st2 s p' l' c', Inv h2 (nx d x) st2 → Stp (o d) st x st2 → Ls e sz enc tm ok h2 h3.size p' l' c' (us ++ [(s, x)]) → Ch ws h3 h2 → k p' l' c' L K h2) → one p l c k L K h1)
    {d0 : σ} {st0 : St} {most : Option Nat} (i0 : Inv h d0 st0)
    (hk : ∀ h' us st' p l c, Ls e sz enc tm ok h' h.size p l c us → us.length ≤ 65535 → Inv h' ((us.map (·.2)).foldl nx d0) st' → Stp (cntR most fun n => manyR o nx n d0) st0 (us.map (·.2)) st' → Ch ws h h' → K (.slice p l c) h') :
    rowsT g (mostI most) (rowsL g one) [] K h := by
  unfold rowsT
  have s0 := hInv _ _ _ i0
  obtain ⟨fr, no, b, hfr, m, hgm, n⟩ := id s0
  refine osome_mk rfl ?_
  rw [add_box]
  refine loads_box b ((fr : Int), ()) rfl ?_
  dsimp only [flat, unc, unc1, List.nil_append, List.cons_append]
  have hat : ∀ r, st0 = .ok r → full.length - fr = r.length := by
    intro r hr
    subst hr
    rw [← n.2, List.length_drop]
  clear b m n no
  refine call_of (rNumber_hc e0 s0 v hl (w := 2) (by omega)) ?_
  rintro _ h2 ⟨k, st2, rfl, hk2, s2, p2, k2⟩
  refine ⟨((k : Int), ()), rfl, ?_⟩
  dsimp only [flat, unc, unc1, List.nil_append, List.cons_append]
  have i2 := hmv _ _ _ _ st2 i0 s2 k2
  have k2' : Ch ws h h2 := k2.mono (fun i hi _ => by simp at hi; subst hi; exact hgw)
  have hk2 : k ≤ 65535 := by omega
  rw [wrap_i64 (by omega) (by omega)]
  have go : over most k = false → rowsL g one (k : Int) [] K h2 := by
    intro ho
    refine rowsL_of o nx (h0 := h0) Inv nm hInv (fun i hi => by have := hws i hi; have := k2.size; omega) (fun {L h1 d st p l c us k} i1 ls hus k1 hh => hone k2' i1 ls hus k1 hh) hk2 i2 rfl ?_
    intro h' us st' p l c ls hu i' q' k'
    refine hk h' us st' p l c (ls.mono k2.size) (by omega) i' ?_ (k2'.trans k' (fun i hi _ => hi))
    exact Stp.cnt p2 ho q'
  cases most with
  | none =>
    refine cond_f rfl ?_
    exact go rfl
  | some mx =>
    refine cond_t (by show decide (((mx : Nat) : Int) ≥ 0) = true; rw [decide_eq_true_eq]; omega) ?_
    refine cond_mk (fun q => ?_) (fun q => ?_)
    · have q := of_decide_eq_true q
      have ho : over (some mx) k = true := by
        unfold over
        have : ((k : Nat) : Int) > ((mx : Nat) : Int) := q
        rw [decide_eq_true_eq]
        omega
      refine call_of (refuse_hc s2 (i := fr) (why := 4) hfr) ?_
      rintro _ h3 ⟨rfl, s3, k3⟩
      refine ⟨(), rfl, ?_⟩
      dsimp only [flat, unc, unc1, List.nil_append, List.cons_append]
      have i3 := hmv _ _ _ _ _ i2 s3 k3
      have k3' : Ch ws h h3 := k2'.trans k3 (fun i hi _ => by simp at hi; subst hi; exact hgw)
      refine rowsL_of o nx (h0 := h0) Inv nm hInv (fun i hi => by have := hws i hi; have := k3'.size; omega) (fun {L h1 d st p l c us k} i1 ls hus k1 hh => hone k3' i1 ls hus k1 hh) hk2 i3 rfl ?_
      intro h' us st' p l c ls hu i' q' k'
      obtain ⟨er, her⟩ := refS_err full fr 4 st2
      have hst : st' = refS full fr 4 st2 := by
        rw [her] at q'
        rw [her]
        exact q'
      refine hk h' us st' p l c (ls.mono k3'.size) (by omega) i' ?_ (k3'.trans k' (fun i hi _ => hi))
      rw [hst]
      exact Stp.many p2 ho hat _
    · have q := of_decide_eq_false q
      refine go ?_
      unfold over
      have : ¬ ((k : Nat) : Int) > ((mx : Nat) : Int) := q
      rw [decide_eq_false_iff_not]
      omega
end Go.Sx.Ob

set_option linter.unusedVariables false
set_option linter.unusedSimpArgs false
set_option maxRecDepth 100000
namespace Go.Sx.Ob
open Go.Proofs
abbrev ptr (g : Nat) : Value := .pointer (some ⟨g, 0, none⟩)
theorem hb33 : hasBody Tryz.prog 51 = true := by kernel_rfl
theorem hb35 : hasBody Tryz.prog 53 = true := by kernel_rfl
theorem hb37 : hasBody Tryz.prog 55 = true := by kernel_rfl
theorem hb39 : hasBody Tryz.prog 57 = true := by kernel_rfl
theorem und26 : Tryz.prog.underlying 24 = some (.slice 102) := by kernel_rfl
theorem und27 : Tryz.prog.underlying 25 = some (.slice 78) := by kernel_rfl
theorem und28 : Tryz.prog.underlying 26 = some (.slice 9) := by kernel_rfl
theorem itmZ : (Tryz.prog.info? 102).map (fun i => (i.zero, i.size, i.bytes)) = some (some (.agg iz.toArray), 10, 104) := by kernel_rfl
theorem equZ : (Tryz.prog.info? 78).map (fun i => (i.zero, i.size, i.bytes)) = some (some (.agg #[.string ⟨#[]⟩, .slice none 0 0, .int .u32 (0 : Int)]), 3, 48) := by kernel_rfl
theorem strZ : (Tryz.prog.info? 9).map (fun i => (i.zero, i.size, i.bytes)) = some (some (.string ⟨#[]⟩), 1, 16) := by kernel_rfl
theorem SL.boxU {h : Hp} {b : Nat} {e : TypeId} {sz : Nat} {p : Option Addr} {l c : Nat} {xs : List (List Value)} (s : SL h b e sz p l c xs) : ∀ i, i ∈ blkOf p → ∃ xs, Box h i e xs := by
  intro i hi
  cases p with
  | none => simp [blkOf] at hi
  | some a =>
    obtain ⟨g, pre, rest, rfl, hb, _, hbox, _⟩ := s.2.2
    simp [blkOf] at hi
    subst hi
    exact ⟨_, hbox⟩
theorem SL.keepU {ws : List Nat} {h h' : Hp} {b : Nat} {e e' : TypeId} {sz : Nat} {p : Option Addr} {l c : Nat} {xs : List (List Value)} (s : SL h b e sz p l c xs) (k : Ch ws h h') (hw : ∀ i, i ∈ ws → ∃ ys, Box h i e' ys) (he : e ≠ e') : SL h' b e sz p l c xs := by
  refine Sx.SL.keep' s k (fun i hi hm => ?_)
  obtain ⟨ys, b1⟩ := SL.boxU s i hi
  obtain ⟨zs, b2⟩ := hw i hm
  unfold Box at b1 b2
  rw [b1] at b2
  simp only [Option.some.injEq, Obj.cells.injEq] at b2
  exact he b2.2.1
section
variable {h0 h : Hp} {g gm : Nat} {bp : Option Addr} {bl bc : Nat} {full : Bt} {st : St} {D : List ByteArray}
theorem clos_hc {f : FuncId} {fn : Func} {sec : Nat} (hsec : sec < 2) (hf : Tryz.prog.funcs[f]? = some fn) (hl1 : Nat.ble 1 fn.ntmps = true) (ht : ∀ a : Addr, xfun Tryz.prog [] fn [.pointer (some a)] =
 T.new iz 102 (fun (a1 : Addr) =>
 T.loads a [.pointer 63] <| fun (p2 : Option Addr) =>
 T.call Tryz.prog 52 [.pointer p2, .int .i64 (sec : Int)] false [(true, [.int .i64, .string, .int .i64, .int .i64, .int .i64, .int .i32, .int .i64, .slice 104, .int .u32, .int .i64])] <| fun (n3 : Int) (s4 : ByteArray) (n5 : Int) (n6 : Int) (n7 : Int) (n8 : Int) (n9 : Int) (p10 : Option Addr) (l11 : Nat) (l12 : Nat) (n13 : Int) (n14 : Int) =>
 T.stores a1 [.int .i64 n3, .string s4, .int .i64 n5, .int .i64 n6, .int .i64 n7, .int .i32 n8, .int .i64 n9, .slice p10 l11 l12, .int .u32 n13, .int .i64 n14] <|
 T.loads a1 [.int .i64, .string, .int .i64, .int .i64, .int .i64, .int .i32, .int .i64, .slice 104, .int .u32, .int .i64] <| fun (n15 : Int) (s16 : ByteArray) (n17 : Int) (n18 : Int) (n19 : Int) (n20 : Int) (n21 : Int) (p22 : Option Addr) (l23 : Nat) (l24 : Nat) (n25 : Int) (n26 : Int) =>
 T.ret (.agg #[.int .i64 n15, .string s16, .int .i64 n17, .int .i64 n18, .int .i64 n19, .int .i32 n20, .int .i64 n21, .slice p22 l23 l24, .int .u32 n25, .int .i64 n26])))
    (e0 : Ext h0 h) (t0 : Tab h0) (hg0 : h0.size ≤ g) (s : RdS h g gm bp bl bc full st D) (v : VwB h0 bp bl full) (hc : bl ≤ bc) (hl : full.length ≤ 2 ^ 60) {a : Nat} (ba : Box h a 60 [ptr g]) :
    HC Tryz.prog f #[ptr a] h fun u h' => ∃ (x : Itm) (st' : St) (p : Option Addr) (l c : Nat), u = itmV p l c x ∧ RdS h' g gm bp bl bc full st' (addN D x) ∧ Stp (itemR sec D) st x st' ∧ SL h' h.size 104 2 p l c (x.e.terms.map encT) ∧ ItmRd x ∧ Ch [g, gm] h h' := by
  refine hcr_of (args := [ptr a]) mixed hf hl1 (ht ⟨a, 0, none⟩) ?_
  obtain ⟨hgl, hml⟩ := s.lt
  refine newB ?_
  intro h1 b1 e1 z1
  have s1 := s.keep e1
  refine loads_box (ba.keep e1 (by simp)) (some ⟨g, 0, none⟩, ()) rfl ?_
  dsimp only [flat, unc, unc1, List.nil_append, List.cons_append]
  refine call_of (rItem_hc (e0.trans e1) t0 hg0 s1 v hc hl hsec) ?_
  rintro _ h2 ⟨x, st2, p, l, c, rfl, s2, q2, sl, hr, k2⟩
  refine ⟨(x.kind, x.name, x.inst.op, x.inst.a, x.inst.b, x.inst.n, x.inst.form, (p, l, c), (x.e.num : Int), x.n, ()), rfl, ?_⟩
  dsimp only [flat, unc, unc1, List.nil_append, List.cons_append]
  have b12 := b1.keep k2 (by simp; omega)
  refine stores_of b12 rfl (by simp [iz]) ?_
  intro h3 b3 k3 z3
  have b3 : Box h3 h.size 102 (encI p l c x) := b3
  refine loads_box b3 (x.kind, x.name, x.inst.op, x.inst.a, x.inst.b, x.inst.n, x.inst.form, (p, l, c), (x.e.num : Int), x.n, ()) rfl ?_
  have hb := Ob.SL.blk sl
  have sl3 := sl.keep k3 (fun a ha hi => by have := (hb a.block (by rw [ha]; simp [blkOf])).1; simp at hi; omega)
  refine ⟨x, st2, p, l, c, rfl, s2.keep1 b12 (by decide) k3 (by omega) (by omega), q2, sl3.mono (by omega), hr, ?_⟩
  exact ((e1.mono (by simp)).trans k2 (by simp)).trans k3 (fun i hi hl => by simp at hi; omega)
abbrev LsI := Ls 102 10 (fun s x => encI s.p s.l s.c x) (fun x => x.e.terms) ItmRd
abbrev LsE := Ls 78 3 (fun s (x : Eqn) => encE s.p s.l s.c x) (fun x => x.2.terms) (fun x => LinRd x.2 ∧ x.1.size < 65536)
abbrev LsS := Ls 9 1 (fun _ (x : ByteArray) => [.string x]) (fun _ => []) (fun x => x.size < 65536)
def oneI (v2 : Value) (p7 : Option Addr) (l8 l9 : Nat) (k : Option Addr → Nat → Nat → T) : T :=
 T.callv Tryz.prog v2 [] false [(true, [.int .i64, .string, .int .i64, .int .i64, .int .i64, .int .i32, .int .i64, .slice 104, .int .u32, .int .i64])] <| fun (n12 : Int) (s13 : ByteArray) (n14 : Int) (n15 : Int) (n16 : Int) (n17 : Int) (n18 : Int) (p19 : Option Addr) (l20 : Nat) (l21 : Nat) (n22 : Int) (n23 : Int) =>
     T.sem Tryz.prog (Instr.buildSlice 24 1 #[(0, .agg #[.int .i64 n12, .string s13, .int .i64 n14, .int .i64 n15, .int .i64 n16, .int .i32 n17, .int .i64 n18, .slice p19 l20 l21, .int .u32 n22, .int .i64 n23])]) false [(false, [.slice 0])] <| fun (p24 : Option Addr) (l25 : Nat) (l26 : Nat) =>
     T.sem Tryz.prog (Builtin.append_ #[24, 24] 24 #[.slice p7 l8 l9, .slice p24 l25 l26]) false [(false, [.slice 0])] k
theorem rowsI_hc {f : FuncId} (hb : hasBody Tryz.prog f = true) {sec : Nat} {a : Nat} (hga : a ≠ g) (hma : a ≠ gm)
    (hcl : ∀ {h : Hp} {st : St} {D : List ByteArray}, Ext h0 h → RdS h g gm bp bl bc full st D → Box h a 60 [ptr g] → HC Tryz.prog f #[ptr a] h fun u h' => ∃ (x : Itm) (st' : St) (p : Option Addr) (l c : Nat), u = itmV p l c x ∧ RdS h' g gm bp bl bc full st' (addN D x) ∧ Stp (itemR sec D) st x st' ∧ SL h' h.size 104 2 p l c (x.e.terms.map encT) ∧ ItmRd x ∧ Ch [g, gm] h h')
    (e0 : Ext h0 h) (hg0 : h0.size ≤ g) (hm0 : h0.size ≤ gm) (v : VwB h0 bp bl full) (hl : full.length ≤ 2 ^ 60) (s : RdS h g gm bp bl bc full st D) (ba : Box h a 60 [ptr g]) (most : Option Nat) :
    HC Tryz.prog 50 #[ptr g, .int .i64 (mostI most), .func (.func f) #[] #[ptr a]] h fun u h' => ∃ (us : List (Sli × Itm)) (st' : St) (p : Option Addr) (l c : Nat), u = .slice p l c ∧ LsI h' h.size p l c us ∧ us.length ≤ 65535 ∧ RdS h' g gm bp bl bc full st' (namesI D (us.map (·.2))) ∧ Stp (cntR most fun n => itemsR sec n D) st (us.map (·.2)) st' ∧ Ch [g, gm] h h' := by
  refine hcr_of (args := [ptr g, .int .i64 (mostI most), .func (.func f) #[] #[ptr a]]) mixed Tryz.func50 (by kernel_rfl) (t_object_rows_api_Item__eq (some ⟨g, 0, none⟩) (mostI most) (.func (.func f) #[] #[ptr a])) ?_
  obtain ⟨hgl, hml⟩ := s.lt
  have hal := ba.lt
  show rowsT g (mostI most) (rowsL g (oneI (.func (.func f) #[] #[ptr a]))) [] _ h
  refine rowsT_of (itemR sec) addN e0 hg0 v hl (fun h D st => RdS h g gm bp bl bc full st D ∧ Box h a 60 [ptr g]) (fun D => D) (fun _ _ _ i => i.1) (fun h h' d st st' i s' k => ⟨s', i.2.keep k (by simpa using hga)⟩)
    (e := 102) (sz := 10) (enc := fun s x => encI s.p s.l s.c x) (tm := fun x => x.e.terms) (ok := ItmRd) (ws := [g, gm]) (fun i hi => by simp at hi; omega) (by simp) ?_ ⟨s, ba⟩ ?_
  · intro L h3 h1 d st p l c us k k3 i1 ls hus k1 hh
    have e1 : Ext h0 h1 := Ch.trans e0 (k3.trans k1 (fun i hi _ => hi)) (fun i hi hl => by simp at hi; omega)
    unfold oneI
    refine callv_any (first := []) (cap := [ptr a]) hb rfl (hcl e1 i1.1 i1.2) ?_
    rintro _ h2 ⟨x, st2, q, m, cc, rfl, s2, q2, sl, hr, k2⟩
    refine ⟨(x.kind, x.name, x.inst.op, x.inst.a, x.inst.b, x.inst.n, x.inst.form, (q, m, cc), (x.e.num : Int), x.n, ()), rfl, ?_⟩
    dsimp only [flat, unc, unc1, List.nil_append, List.cons_append]
    have hz3 := k3.size
    have hz1 := k1.size
    have hz2 := k2.size
    have ls2 := ls.keep k2 (fun i hi _ => by simp at hi; omega)
    have hlen := ls.len
    refine push_of (vs := encI q m cc x) und26 itmZ rfl (by omega) (by omega) (by kernel_rfl) rfl rfl ls2.sl (by omega) (by omega) (by omega) ?_
    intro p' c' h4 sl4 k4 hp'
    have hblk := Ob.SL.blk ls2.sl
    have s4 := s2.keepT k4 (fun hi => by have := (hblk _ hi).1; omega) (fun hi => by have := (hblk _ hi).1; omega) (Ob.SL.boxT ls2.sl (by decide))
    have ba4 := (i1.2.keep k2 (by simp; omega)).keep k4 (fun hi => by have := (hblk _ hi).1; omega)
    refine hh h4 x st2 ⟨q, m, cc⟩ p' (l + 1) c' ⟨s4, ba4⟩ q2 ⟨by rw [List.map_append]; exact sl4, ?_, ?_⟩ ((k1.trans k2 (fun i hi _ => hi)).trans k4 (fun i hi hl => by have := (hblk _ hi).1; omega))
    · intro u hu
      rcases List.mem_append.1 hu with hu | hu
      · exact SL.keepU (ls2.own u hu) k4 (Ob.SL.boxU ls2.sl) (by decide)
      · rw [List.mem_singleton.1 hu]
        exact SL.keepU (Sx.SL.mono sl (by omega)) k4 (Ob.SL.boxU ls2.sl) (by decide)
    · intro u hu
      rcases List.mem_append.1 hu with hu | hu
      · exact ls2.ok u hu
      · rw [List.mem_singleton.1 hu]
        exact hr
  · intro h' us st' p l c ls hu i' q' k'
    exact ⟨us, st', p, l, c, rfl, ls, hu, i'.1, by rw [show (fun n => itemsR sec n D) = fun n => manyR (itemR sec) addN n D from funext fun n => itemsR_many sec n D]; exact q', k'⟩
def oneE (v2 : Value) (p7 : Option Addr) (l8 l9 : Nat) (k : Option Addr → Nat → Nat → T) : T :=
 T.callv Tryz.prog v2 [] false [(true, [.string, .slice 104, .int .u32])] <| fun (s12 : ByteArray) (p13 : Option Addr) (l14 : Nat) (l15 : Nat) (n16 : Int) =>
     T.sem Tryz.prog (Instr.buildSlice 25 1 #[(0, .agg #[.string s12, .slice p13 l14 l15, .int .u32 n16])]) false [(false, [.slice 0])] <| fun (p17 : Option Addr) (l18 : Nat) (l19 : Nat) =>
     T.sem Tryz.prog (Builtin.append_ #[25, 25] 25 #[.slice p7 l8 l9, .slice p17 l18 l19]) false [(false, [.slice 0])] k
theorem rowsE_hc (e0 : Ext h0 h) (hg0 : h0.size ≤ g) (hm0 : h0.size ≤ gm) (v : VwB h0 bp bl full) (hc : bl ≤ bc) (hl : full.length ≤ 2 ^ 60) (s : RdS h g gm bp bl bc full st D) (most : Option Nat) :
    HC Tryz.prog 54 #[ptr g, .int .i64 (mostI most), .func (.func 55) #[ptr g] #[]] h fun u h' => ∃ (us : List (Sli × Eqn)) (st' : St) (p : Option Addr) (l c : Nat), u = .slice p l c ∧ LsE h' h.size p l c us ∧ us.length ≤ 65535 ∧ RdS h' g gm bp bl bc full st' (namesE D (us.map (·.2))) ∧ Stp (cntR most fun n => equsR n D) st (us.map (·.2)) st' ∧ Ch [g, gm] h h' := by
  refine hcr_of (args := [ptr g, .int .i64 (mostI most), .func (.func 55) #[ptr g] #[]]) mixed Tryz.func54 (by kernel_rfl) (t_object_rows_api_Equ__eq (some ⟨g, 0, none⟩) (mostI most) (.func (.func 55) #[ptr g] #[])) ?_
  obtain ⟨hgl, hml⟩ := s.lt
  show rowsT g (mostI most) (rowsL g (oneE (.func (.func 55) #[ptr g] #[]))) [] _ h
  refine rowsT_of equR (fun D x => x.1 :: D) e0 hg0 v hl (fun h D st => RdS h g gm bp bl bc full st D) (fun D => D) (fun _ _ _ i => i) (fun h h' d st st' i s' k => s')
    (e := 78) (sz := 3) (enc := fun s (x : Eqn) => encE s.p s.l s.c x) (tm := fun x => x.2.terms) (ok := fun x => LinRd x.2 ∧ x.1.size < 65536) (ws := [g, gm]) (fun i hi => by simp at hi; omega) (by simp) ?_ s ?_
  · intro L h3 h1 d st p l c us k k3 i1 ls hus k1 hh
    have e1 : Ext h0 h1 := Ch.trans e0 (k3.trans k1 (fun i hi _ => hi)) (fun i hi hl => by simp at hi; omega)
    unfold oneE
    refine callv_any (first := [ptr g]) (cap := []) hb37 rfl (equ_hc e1 hg0 i1 v hc hl) ?_
    rintro _ h2 ⟨x, st2, q, m, cc, rfl, s2, q2, sl, hr, hr2, k2⟩
    refine ⟨(x.1, (q, m, cc), (x.2.num : Int), ()), rfl, ?_⟩
    dsimp only [flat, unc, unc1, List.nil_append, List.cons_append]
    have hz3 := k3.size
    have hz1 := k1.size
    have hz2 := k2.size
    have ls2 := ls.keep k2 (fun i hi _ => by simp at hi; omega)
    have hlen := ls.len
    refine push_of (vs := encE q m cc x) und27 equZ rfl (by omega) (by omega) (by kernel_rfl) rfl rfl ls2.sl (by omega) (by omega) (by omega) ?_
    intro p' c' h4 sl4 k4 hp'
    have hblk := Ob.SL.blk ls2.sl
    have s4 := s2.keepT k4 (fun hi => by have := (hblk _ hi).1; omega) (fun hi => by have := (hblk _ hi).1; omega) (Ob.SL.boxT ls2.sl (by decide))
    refine hh h4 x st2 ⟨q, m, cc⟩ p' (l + 1) c' s4 q2 ⟨by rw [List.map_append]; exact sl4, ?_, ?_⟩ ((k1.trans k2 (fun i hi _ => hi)).trans k4 (fun i hi hl => by have := (hblk _ hi).1; omega))
    · intro u hu
      rcases List.mem_append.1 hu with hu | hu
      · exact SL.keepU (ls2.own u hu) k4 (Ob.SL.boxU ls2.sl) (by decide)
      · rw [List.mem_singleton.1 hu]
        exact SL.keepU (Sx.SL.mono sl (by omega)) k4 (Ob.SL.boxU ls2.sl) (by decide)
    · intro u hu
      rcases List.mem_append.1 hu with hu | hu
      · exact ls2.ok u hu
      · rw [List.mem_singleton.1 hu]
        exact ⟨hr, hr2⟩
  · intro h' us st' p l c ls hu i' q' k'
    exact ⟨us, st', p, l, c, rfl, ls, hu, i', by rw [show (fun n => equsR n D) = fun n => manyR equR (fun D x => x.1 :: D) n D from funext fun n => equsR_many n D]; exact q', k'⟩
def oneS (v2 : Value) (p7 : Option Addr) (l8 l9 : Nat) (k : Option Addr → Nat → Nat → T) : T :=
 T.callv Tryz.prog v2 [] false [(false, [.string])] <| fun (s12 : ByteArray) =>
     T.sem Tryz.prog (Instr.buildSlice 26 1 #[(0, .string s12)]) false [(false, [.slice 0])] <| fun (p13 : Option Addr) (l14 : Nat) (l15 : Nat) =>
     T.sem Tryz.prog (Builtin.append_ #[26, 26] 26 #[.slice p7 l8 l9, .slice p13 l14 l15]) false [(false, [.slice 0])] k
theorem glob_hc {o : ByteArray} (e0 : Ext h0 h) (s : RdS h g gm bp bl bc full st D) (v : VwB h0 bp bl full) (hc : bl ≤ bc) (hl : full.length ≤ 2 ^ 60) {a b : Nat} (ba : Box h a 60 [ptr g]) (bb : Box h b 9 [.string o]) (hga : a ≠ g) (hgb : b ≠ g) (hmb : b ≠ gm) :
    HC Tryz.prog 57 #[ptr a, ptr b] h fun u h' => ∃ (x : ByteArray) (st' : St), u = .string x ∧ RdS h' g gm bp bl bc full st' D ∧ Stp (globR D o) st x st' ∧ x.size < 65536 ∧ Box h' b 9 [.string x] ∧ Ch [g, b] h h' := by
  refine hcr_of (args := [ptr a, ptr b]) mixed Tryz.func57 (by kernel_rfl) (t_object_reader__unit_3_u3_eq ⟨a, 0, none⟩ ⟨b, 0, none⟩) ?_
  unfold t_object_reader__unit_3_u3
  obtain ⟨hgl, hml⟩ := s.lt
  have hab : a ≠ b := by
    intro e
    subst e
    unfold Box at ba bb
    rw [ba] at bb
    simp at bb
  refine loads_box ba (some ⟨g, 0, none⟩, ()) rfl ?_
  dsimp only [flat, unc, unc1, List.nil_append, List.cons_append]
  obtain ⟨fr, no, bx, hfr, m, hgm, n⟩ := id s
  refine osome_mk rfl ?_
  rw [add_box]
  refine loads_box bx ((fr : Int), ()) rfl ?_
  dsimp only [flat, unc, unc1, List.nil_append, List.cons_append]
  have hat : ∀ r, st = .ok r → full.length - fr = r.length := by
    intro r hr
    subst hr
    rw [← n.2, List.length_drop]
  clear bx m n no
  refine loads_box ba (some ⟨g, 0, none⟩, ()) rfl ?_
  dsimp only [flat, unc, unc1, List.nil_append, List.cons_append]
  refine call_of (rText_hc e0 s v hc hl) ?_
  rintro _ h2 ⟨t, st2, rfl, ht, s2, p2, k2⟩
  refine ⟨(t, ()), rfl, ?_⟩
  dsimp only [flat, unc, unc1, List.nil_append, List.cons_append]
  have ba2 := ba.keep k2 (by simpa using hga)
  have bb2 := bb.keep k2 (by simpa using hgb)
  refine loads_box ba2 (some ⟨g, 0, none⟩, ()) rfl ?_
  dsimp only [flat, unc, unc1, List.nil_append, List.cons_append]
  obtain ⟨fr', no, bx, hfr', m, hgm', n⟩ := id s2
  refine osome_mk rfl ?_
  rw [add_box]
  refine loads_box bx (some gm, ()) rfl ?_
  dsimp only [flat, unc, unc1, List.nil_append, List.cons_append]
  refine lookS m t ?_
  have bad : gOk D o t = false → Stp (globR D o) st t (refS full fr 31 st2) := fun hb => Stp.bad (f := textR) (ok := gOk D o) (why := 31) p2 hb hat
  have good : gOk D o t = true → Stp (globR D o) st t st2 := fun hb => Stp.good (f := textR) (ok := gOk D o) (why := 31) p2 hb
  have fin : ∀ (h3 : Hp) (st3 : St), RdS h3 g gm bp bl bc full st3 D → Ch [g] h2 h3 → Stp (globR D o) st t st3 → (T.stores ⟨b, 0, none⟩ [.string t] <| T.ret (.string t)) [] (fun u h' => ∃ (x : ByteArray) (st' : St), u = .string x ∧ RdS h' g gm bp bl bc full st' D ∧ Stp (globR D o) st x st' ∧ x.size < 65536 ∧ Box h' b 9 [.string x] ∧ Ch [g, b] h h') h3 := by
    intro h3 st3 s3 k3 q3
    have bb3 := bb2.keep k3 (by simpa using hgb)
    refine stores_of bb3 rfl (by simp) ?_
    intro h4 b4 k4 z4
    exact ⟨t, st3, rfl, s3.keep1 bb3 (by decide) k4 (fun e => hgb e.symm) (fun e => hmb e.symm), q3, ht, b4, ((k2.trans k3 (fun i hi _ => hi)).mono (by simp)).trans k4 (by simp)⟩
  refine cond_mk (fun w => ?_) (fun w => ?_)
  · refine loads_box ba2 (some ⟨g, 0, none⟩, ()) rfl ?_
    dsimp only [flat, unc, unc1, List.nil_append, List.cons_append]
    refine call_of (refuse_hc s2 (i := fr) (why := 31) hfr) ?_
    rintro _ h3 ⟨rfl, s3, k3⟩
    refine ⟨(), rfl, ?_⟩
    exact fin h3 _ s3 k3 (bad (by unfold gOk; rw [show inN D t = false by simpa using w]; rfl))
  have w : inN D t = true := by simpa using w
  refine loads_box bb2 (o, ()) rfl ?_
  dsimp only [flat, unc, unc1, List.nil_append, List.cons_append]
  refine cond_mk (fun u => ?_) (fun u => ?_)
  · refine loads_box ba2 (some ⟨g, 0, none⟩, ()) rfl ?_
    dsimp only [flat, unc, unc1, List.nil_append, List.cons_append]
    refine call_of (refuse_hc s2 (i := fr) (why := 31) hfr) ?_
    rintro _ h3 ⟨rfl, s3, k3⟩
    refine ⟨(), rfl, ?_⟩
    exact fin h3 _ s3 k3 (bad (by
      unfold gOk
      rw [leB] at u
      rw [show decide (ltN o t) = false by simpa using u, Bool.and_false]))
  · exact fin h2 _ s2 (Ch.refl _ _) (good (by
      unfold gOk
      rw [leB] at u
      rw [show decide (ltN o t) = true by simpa using u, w]
      rfl))
theorem rowsS_hc {a b : Nat} (hga : a ≠ g) (hma : a ≠ gm) (hgb : b ≠ g) (hmb : b ≠ gm) {o : ByteArray} (e0 : Ext h0 h) (hg0 : h0.size ≤ g) (hm0 : h0.size ≤ gm) (hb0 : h0.size ≤ b) (v : VwB h0 bp bl full) (hc : bl ≤ bc) (hl : full.length ≤ 2 ^ 60) (s : RdS h g gm bp bl bc full st D) (ba : Box h a 60 [ptr g]) (bb : Box h b 9 [.string o]) (most : Option Nat) :
    HC Tryz.prog 56 #[ptr g, .int .i64 (mostI most), .func (.func 57) #[] #[ptr a, ptr b]] h fun u h' => ∃ (us : List (Sli × ByteArray)) (st' : St) (p : Option Addr) (l c : Nat), u = .slice p l c ∧ LsS h' h.size p l c us ∧ us.length ≤ 65535 ∧ RdS h' g gm bp bl bc full st' D ∧ Stp (cntR most fun n => globsR D n o) st (us.map (·.2)) st' ∧ Ch [g, b] h h' := by
  refine hcr_of (args := [ptr g, .int .i64 (mostI most), .func (.func 57) #[] #[ptr a, ptr b]]) mixed Tryz.func56 (by kernel_rfl) (t_object_rows_string__eq (some ⟨g, 0, none⟩) (mostI most) (.func (.func 57) #[] #[ptr a, ptr b])) ?_
  obtain ⟨hgl, hml⟩ := s.lt
  have hal := ba.lt
  have hbl := bb.lt
  have hab : a ≠ b := by
    intro e
    subst e
    unfold Box at ba bb
    rw [ba] at bb
    simp at bb
  show rowsT g (mostI most) (rowsL g (oneS (.func (.func 57) #[] #[ptr a, ptr b]))) [] _ h
  refine rowsT_of (globR D) (fun _ x => x) e0 hg0 v hl (fun h d st => RdS h g gm bp bl bc full st D ∧ Box h a 60 [ptr g] ∧ Box h b 9 [.string d]) (fun _ => D) (fun _ _ _ i => i.1) (fun h h' d st st' i s' k => ⟨s', i.2.1.keep k (by simpa using hga), i.2.2.keep k (by simpa using hgb)⟩)
    (e := 9) (sz := 1) (enc := fun _ (x : ByteArray) => [.string x]) (tm := fun _ => []) (ok := fun x => x.size < 65536) (ws := [g, b]) (fun i hi => by simp at hi; omega) (by simp) ?_ ⟨s, ba, bb⟩ ?_
  · intro L h3 h1 d st p l c us k k3 i1 ls hus k1 hh
    have e1 : Ext h0 h1 := Ch.trans e0 (k3.trans k1 (fun i hi _ => hi)) (fun i hi hl => by simp at hi; omega)
    unfold oneS
    refine callv_any (first := []) (cap := [ptr a, ptr b]) hb39 rfl (glob_hc e1 i1.1 v hc hl i1.2.1 i1.2.2 hga hgb hmb) ?_
    rintro _ h2 ⟨x, st2, rfl, s2, q2, hr, b2, k2⟩
    refine ⟨(x, ()), rfl, ?_⟩
    dsimp only [flat, unc, unc1, List.nil_append, List.cons_append]
    have hz3 := k3.size
    have hz1 := k1.size
    have hz2 := k2.size
    have ls2 := ls.keep k2 (fun i hi _ => by simp at hi; omega)
    have hlen := ls.len
    refine push_of (vs := [.string x]) und28 strZ rfl (by omega) (by omega) (by kernel_rfl) rfl rfl ls2.sl (by omega) (by omega) (by omega) ?_
    intro p' c' h4 sl4 k4 hp'
    have hblk := Ob.SL.blk ls2.sl
    have s4 := s2.keepT k4 (fun hi => by have := (hblk _ hi).1; omega) (fun hi => by have := (hblk _ hi).1; omega) (Ob.SL.boxT ls2.sl (by decide))
    have ba4 := (i1.2.1.keep k2 (by simp; omega)).keep k4 (fun hi => by have := (hblk _ hi).1; omega)
    have bb4 := b2.keep k4 (fun hi => by have := (hblk _ hi).1; omega)
    refine hh h4 x st2 ⟨none, 0, 0⟩ p' (l + 1) c' ⟨s4, ba4, bb4⟩ q2 ⟨by rw [List.map_append]; exact sl4, ?_, ?_⟩ ((k1.trans k2 (fun i hi _ => hi)).trans k4 (fun i hi hl => by have := (hblk _ hi).1; omega))
    · intro u hu
      rcases List.mem_append.1 hu with hu | hu
      · exact SL.keepU (ls2.own u hu) k4 (Ob.SL.boxU ls2.sl) (by decide)
      · rw [List.mem_singleton.1 hu]
        exact SL.nil _ _ _ _
    · intro u hu
      rcases List.mem_append.1 hu with hu | hu
      · exact ls2.ok u hu
      · rw [List.mem_singleton.1 hu]
        exact hr
  · intro h' us st' p l c ls hu i' q' k'
    exact ⟨us, st', p, l, c, rfl, ls, hu, i'.1, by rw [show (fun n => globsR D n o) = fun n => manyR (globR D) (fun _ x => x) n o from funext fun n => globsR_many D n o]; exact q', k'⟩
end
end Go.Sx.Ob

set_option linter.unusedVariables false
set_option linter.unusedSimpArgs false
set_option maxRecDepth 100000
namespace Go.Sx.Ob
open Go.Proofs
theorem max0_of {P : Program} {L : Lp} {K : Value → Hp → Prop} {h : Hp} {k : Int → T} {a : Int} (hk : k (max a 0) L K h) :
    T.sem P (Builtin.max_ #[3, 3] 3 #[.int .i64 a, .int .i64 0]) false [(false, [.int .i64])] k L K h := by
  show semW P (Builtin.max2 (.int .i64 a) (.int .i64 0) >>= fun x => pure x) h _
  refine ⟨((max a (0 : Int) : Int), ()), ?_, hk⟩
  show Value.int .i64 (if 0 > a then 0 else a) = Value.int .i64 (max a 0)
  congr 1
  split <;> omega
/-- A unit that was read: all its lists are in memory of their own. -/
structure UntOwn (h : Hp) (b0 : Nat) (a b c d : Sli) (u : Unt) : Prop where
  text : ∃ us, us.map (·.2) = u.text ∧ us.length ≤ 65535 ∧ LsI h b0 a.p a.l a.c us
  data : ∃ us, us.map (·.2) = u.data ∧ us.length ≤ 65535 ∧ LsI h b0 b.p b.l b.c us
  equs : ∃ us, us.map (·.2) = u.equs ∧ us.length ≤ 65535 ∧ LsE h b0 c.p c.l c.c us
  globs : ∃ us, us.map (·.2) = u.globs ∧ us.length ≤ 65535 ∧ LsS h b0 d.p d.l d.c us
def sl0 : Sli := ⟨none, 0, 0⟩
theorem UntOwn.zero (h : Hp) (b0 : Nat) : UntOwn h b0 sl0 sl0 sl0 sl0 unt0 :=
  ⟨⟨[], rfl, by simp, Ls.nil _ _⟩, ⟨[], rfl, by simp, Ls.nil _ _⟩, ⟨[], rfl, by simp, Ls.nil _ _⟩, ⟨[], rfl, by simp, Ls.nil _ _⟩⟩
theorem UntOwn.keep {ws : List Nat} {h h' : Hp} {b0 : Nat} {a b c d : Sli} {u : Unt} (o : UntOwn h b0 a b c d u) (k : Ch ws h h') (hw : ∀ i, i ∈ ws → i < h.size → i < b0) : UntOwn h' b0 a b c d u := by
  obtain ⟨⟨u1, a1, c1, d1⟩, ⟨u2, a2, c2, d2⟩, ⟨u3, a3, c3, d3⟩, ⟨u4, a4, c4, d4⟩⟩ := o
  exact ⟨⟨u1, a1, c1, d1.keep k hw⟩, ⟨u2, a2, c2, d2.keep k hw⟩, ⟨u3, a3, c3, d3.keep k hw⟩, ⟨u4, a4, c4, d4.keep k hw⟩⟩
theorem UntOwn.mono {h : Hp} {b0 b1 : Nat} {a b c d : Sli} {u : Unt} (o : UntOwn h b0 a b c d u) (hb : b1 ≤ b0) : UntOwn h b1 a b c d u := by
  obtain ⟨⟨u1, a1, c1, d1⟩, ⟨u2, a2, c2, d2⟩, ⟨u3, a3, c3, d3⟩, ⟨u4, a4, c4, d4⟩⟩ := o
  exact ⟨⟨u1, a1, c1, d1.mono hb⟩, ⟨u2, a2, c2, d2.mono hb⟩, ⟨u3, a3, c3, d3.mono hb⟩, ⟨u4, a4, c4, d4.mono hb⟩⟩
theorem SL.at_ {h : Hp} {b : Nat} {e : TypeId} {sz : Nat} {p : Option Addr} {l c : Nat} {xs : List (List Value)} (s : SL h b e sz p l c xs) {i : Nat} (hi : i < xs.length) : ∃ a, p = some a ∧ cellsAt h (a.add (i * sz)) 0 xs[i] := Sx.SL.cells s hi
theorem LsI.at {h : Hp} {b : Nat} {p : Option Addr} {l c : Nat} {us : List (Sli × Itm)} (s : LsI h b p l c us) (hn : us.length ≤ 65535) : VwI h p l (us.map (·.2)) := by
  refine ⟨by rw [s.len, List.length_map], by rw [List.length_map]; omega, fun i hi => ?_⟩
  rw [List.length_map] at hi
  obtain ⟨a, ha, hc⟩ := SL.at_ s.sl (i := i) (by rw [List.length_map]; exact hi)
  rw [List.getElem_map] at hc ⊢
  exact ⟨a, _, _, _, ha, hc, (s.ok _ (List.getElem_mem hi)).at (s.own _ (List.getElem_mem hi))⟩
theorem LsE.at {h : Hp} {b : Nat} {p : Option Addr} {l c : Nat} {us : List (Sli × Eqn)} (s : LsE h b p l c us) (hn : us.length ≤ 65535) : VwE h p l (us.map (·.2)) := by
  refine ⟨by rw [s.len, List.length_map], by rw [List.length_map]; omega, fun i hi => ?_⟩
  rw [List.length_map] at hi
  obtain ⟨a, ha, hc⟩ := SL.at_ s.sl (i := i) (by rw [List.length_map]; exact hi)
  rw [List.getElem_map] at hc ⊢
  have ok := s.ok _ (List.getElem_mem hi)
  exact ⟨a, _, _, _, ha, hc, ok.1.at (s.own _ (List.getElem_mem hi)), by have := ok.2; unfold maxLen; omega⟩
theorem LsS.at {h : Hp} {b : Nat} {p : Option Addr} {l c : Nat} {us : List (Sli × ByteArray)} (s : LsS h b p l c us) (hn : us.length ≤ 65535) : VwS h p l (us.map (·.2)) := by
  refine ⟨by rw [s.len, List.length_map], by rw [List.length_map]; omega, fun i hi => ?_⟩
  rw [List.length_map] at hi
  obtain ⟨a, ha, hc⟩ := SL.at_ s.sl (i := i) (by rw [List.length_map]; exact hi)
  rw [List.getElem_map] at hc ⊢
  have ok := s.ok _ (List.getElem_mem hi)
  exact ⟨a, ha, hc, by unfold maxLen; omega⟩
theorem UntOwn.at {h : Hp} {b0 : Nat} {a b c d : Sli} {u : Unt} (o : UntOwn h b0 a b c d u) : UntAt h a b c d u := by
  obtain ⟨⟨u1, a1, c1, d1⟩, ⟨u2, a2, c2, d2⟩, ⟨u3, a3, c3, d3⟩, ⟨u4, a4, c4, d4⟩⟩ := o
  exact ⟨by rw [← a1]; exact LsI.at d1 c1, by rw [← a2]; exact LsI.at d2 c2, by rw [← a3]; exact LsE.at d3 c3, by rw [← a4]; exact LsS.at d4 c4⟩
theorem sbyte5 {i : Nat} (hi : i < 5) : sbyte ⟨#[83, 80, 65, 78, 1]⟩ (i : Int) = ((headL.getD i 0).toNat : Int) := by
  have : i = 0 ∨ i = 1 ∨ i = 2 ∨ i = 3 ∨ i = 4 := by omega
  rcases this with rfl | rfl | rfl | rfl | rfl <;> rfl
def tR4 (t d : List Itm) (e : List Eqn) (g : List ByteArray) (r : Bt) : Rd Unt := .ok (⟨t, d, e, g⟩, r)
def tR3 (t d : List Itm) (e : List Eqn) (r : Bt) : Rd Unt := andR (cntR none (fun n => globsR (namesE (namesI (namesI [] t) d) e) n nam0) r) (tR4 t d e)
def tR2 (t d : List Itm) (r : Bt) : Rd Unt := andR (cntR (some 8192) (fun n => equsR n (namesI (namesI [] t) d)) r) (tR3 t d)
def tR1 (t : List Itm) (r : Bt) : Rd Unt := andR (cntR (some (8192 - t.length)) (fun n => itemsR 1 n (namesI [] t)) r) (tR2 t)
def tailR (r : Bt) : Rd Unt := andR (cntR (some 8192) (fun n => itemsR 0 n []) r) tR1
def endR (u : Unt) (r : Bt) : Rd Unt := if r = [] then .ok (u, []) else .error (r.length, 14)
theorem unitR_eq (r : Bt) : unitR r = andR (headR headL r) fun _ r => andR (tailR r) endR := by
  unfold unitR bodyR
  cases headR headL r with
  | error e => rfl
  | ok q => rfl
theorem Stp.tail {st st1 st2 st3 st4 : St} {t d : List Itm} {e : List Eqn} {g : List ByteArray} (p1 : Stp (cntR (some 8192) (fun n => itemsR 0 n [])) st t st1) (p2 : Stp (cntR (some (8192 - t.length)) (fun n => itemsR 1 n (namesI [] t))) st1 d st2)
    (p3 : Stp (cntR (some 8192) (fun n => equsR n (namesI (namesI [] t) d))) st2 e st3) (p4 : Stp (cntR none (fun n => globsR (namesE (namesI (namesI [] t) d) e) n nam0)) st3 g st4) : Stp tailR st ⟨t, d, e, g⟩ st4 :=
  Stp.and (k := tR1) p1 (Stp.and (k := tR2 t) p2 (Stp.and (k := tR3 t d) p3 (Stp.and (k := tR4 t d e) p4 (Stp.ret _ _))))
/-- How a unit's reading ends. -/
def UnitE (full : Bt) (u : Unt) (st : St) : Prop :=
  match unitR full with
  | .ok q => u = q.1 ∧ st = .ok []
  | .error e => st = .error e
def zU : List Value := [.slice none 0 0, .slice none 0 0, .slice none 0 0, .slice none 0 0]
def retT (a2 a3 : Nat) : T :=
  T.loads ⟨a3, 0, none⟩ [.slice 102, .slice 102, .slice 78, .slice 9] <| fun (p11 : Option Addr) (l12 : Nat) (l13 : Nat) (p14 : Option Addr) (l15 : Nat) (l16 : Nat) (p17 : Option Addr) (l18 : Nat) (l19 : Nat) (p20 : Option Addr) (l21 : Nat) (l22 : Nat) =>
   T.stores ⟨a2, 0, none⟩ [.slice p11 l12 l13, .slice p14 l15 l16, .slice p17 l18 l19, .slice p20 l21 l22] <|
   T.loads ⟨a2, 0, none⟩ [.slice 102, .slice 102, .slice 78, .slice 9] <| fun (p23 : Option Addr) (l24 : Nat) (l25 : Nat) (p26 : Option Addr) (l27 : Nat) (l28 : Nat) (p29 : Option Addr) (l30 : Nat) (l31 : Nat) (p32 : Option Addr) (l33 : Nat) (l34 : Nat) =>
   T.ret (.agg #[.slice p23 l24 l25, .slice p26 l27 l28, .slice p29 l30 l31, .slice p32 l33 l34])
def UntEnd (h : Hp) (g gm : Nat) (bp : Option Addr) (bl bc : Nat) (full : Bt) (w : Value) (h' : Hp) : Prop :=
  ∃ (a b c d : Sli) (u : Unt) (st : St) (D : List ByteArray), w = untV a b c d ∧ UntOwn h' h.size a b c d u ∧ RdS h' g gm bp bl bc full st D ∧ UnitE full u st ∧ Ch [g, gm] h h'
theorem retT_of {L : Lp} {h h' : Hp} {a2 a3 : Nat} {xs : List Value} {g gm : Nat} {bp : Option Addr} {bl bc : Nat} {full : Bt} {a b c d : Sli} {u : Unt} {st : St} {D : List ByteArray} (hg : g < h.size) (hm : gm < h.size) (h2 : h.size ≤ a2) (b3 : Box h' a3 28 [a.v, b.v, c.v, d.v]) (b2 : Box h' a2 28 xs) (hx : xs.length = 4) (o : UntOwn h' (a2 + 1) a b c d u) (s : RdS h' g gm bp bl bc full st D) (e : UnitE full u st) (k : Ch [g, gm] h h') :
    retT a2 a3 L (UntEnd h g gm bp bl bc full) h' := by
  unfold retT
  refine loads_box b3 ((a.p, a.l, a.c), (b.p, b.l, b.c), (c.p, c.l, c.c), (d.p, d.l, d.c), ()) rfl ?_
  dsimp only [flat, unc, unc1, List.nil_append, List.cons_append]
  refine stores_of b2 rfl (by simp [hx]) ?_
  intro h3 b4 k3 z3
  have b4 : Box h3 a2 28 [a.v, b.v, c.v, d.v] := by
    obtain ⟨x1, x2, x3, x4, rfl⟩ : ∃ x1 x2 x3 x4, xs = [x1, x2, x3, x4] := by
      match xs, hx with
      | [x1, x2, x3, x4], _ => exact ⟨x1, x2, x3, x4, rfl⟩
    exact b4
  refine loads_box b4 ((a.p, a.l, a.c), (b.p, b.l, b.c), (c.p, c.l, c.c), (d.p, d.l, d.c), ()) rfl ?_
  exact ⟨a, b, c, d, u, st, D, rfl, (o.keep k3 (fun i hi hl => by simp at hi; omega)).mono (by omega), s.keep1 b2 (by decide) k3 (by omega) (by omega), e, k.trans k3 (fun i hi hl => by simp at hi; omega)⟩
end Go.Sx.Ob

set_option linter.unusedVariables false
set_option linter.unusedSimpArgs false
set_option maxRecDepth 100000
namespace Go.Sx.Ob
open Go.Proofs
theorem Ls.keepW {α : Type} {e : TypeId} {sz : Nat} {enc : Sli → α → List Value} {tm : α → Tms} {ok : α → Prop} {h h' : Hp} {b : Nat} {p : Option Addr} {l c : Nat} {us : List (Sli × α)} {ws : List Nat} (s : Ls e sz enc tm ok h b p l c us) (k : Ch ws h h') (hw : ∀ i, i ∈ ws → i < h.size → i < b ∨ ∃ e' ys, Box h i e' ys ∧ e' ≠ e ∧ e' ≠ 104) : Ls e sz enc tm ok h' b p l c us := by
  have go : ∀ {d : TypeId} {z : Nat} {p : Option Addr} {l c : Nat} {xs : List (List Value)}, SL h b d z p l c xs → (d = e ∨ d = 104) → SL h' b d z p l c xs := by
    intro d z p l c xs s hd
    refine Sx.SL.keep' s k (fun i hi hm => ?_)
    have hb := Sx.SL.blk s hi
    rcases hw i hm hb.2 with h1 | ⟨e', ys, b2, h2, h3⟩
    · omega
    · obtain ⟨zs, b1⟩ := SL.boxU s i hi
      unfold Box at b1 b2
      rw [b1] at b2
      simp only [Option.some.injEq, Obj.cells.injEq] at b2
      rcases hd with rfl | rfl
      · exact h2 b2.2.1.symm
      · exact h3 b2.2.1.symm
  exact ⟨go s.sl (.inl rfl), fun u hu => go (s.own u hu) (.inr rfl), s.ok⟩
theorem eqN_t {a b : Nat} (h : (((a : Nat) : Int) == ((b : Nat) : Int)) = true) : a = b := by
  have := eq_of_beq h
  omega
theorem eqN_f {a b : Nat} (h : (((a : Nat) : Int) == ((b : Nat) : Int)) = false) : ¬ a = b := by
  rintro rfl
  simp at h
theorem headL_drop {i : Nat} (hi : i < 5) : headL.drop i = headL.getD i 0 :: headL.drop (i + 1) := by
  have : i = 0 ∨ i = 1 ∨ i = 2 ∨ i = 3 ∨ i = 4 := by omega
  rcases this with rfl | rfl | rfl | rfl | rfl <;> rfl
theorem headR_cons (c b : UInt8) (l r : Bt) : headR (c :: l) (b :: r) = if b = c then headR l r else .error (r.length + 1, 15) := rfl
theorem headR_step {i : Nat} {full : Bt} (hi : i < 5) (hf : i < full.length) (he : full[i] = headL.getD i 0) : headR (headL.drop i) (full.drop i) = headR (headL.drop (i + 1)) (full.drop (i + 1)) := by
  rw [List.drop_eq_getElem_cons hf, headL_drop hi, headR_cons, if_pos he]
theorem headR_neq {i : Nat} {full : Bt} (hi : i < 5) (hf : i < full.length) (he : ¬ full[i] = headL.getD i 0) : headR (headL.drop i) (full.drop i) = .error (full.length - i, 15) := by
  rw [List.drop_eq_getElem_cons hf, headL_drop hi, headR_cons, if_neg he, List.length_drop, show full.length - (i + 1) + 1 = full.length - i by omega]
theorem headR_end {i : Nat} {full : Bt} (hi : i < 5) (hf : i = full.length) : headR (headL.drop i) (full.drop i) = .error (full.length - i, 15) := by
  subst hf
  rw [List.drop_length, headL_drop hi, Nat.sub_self]
  rfl
theorem unitE_head {full : Bt} {e : Nat × Nat} {u : Unt} (h : headR headL full = .error e) : UnitE full u (.error e) := by
  unfold UnitE
  rw [unitR_eq, h]
  rfl
theorem unitE_tail {full r : Bt} {u : Unt} {st st' : St} (h : headR headL full = .ok (⟨⟩, r)) (p : Stp tailR (.ok r) u st) (q : Stp (endR u) st u st') (hz : ∀ r', st' = .ok r' → r' = []) : UnitE full u st' := by
  have := Stp.and (k := endR) p q
  unfold UnitE
  rw [unitR_eq, h, andR_okk]
  unfold Stp at this
  simp only at this
  cases hf : andR (tailR r) endR with
  | error e => rw [hf] at this; exact this
  | ok w =>
    rw [hf] at this
    obtain ⟨h1, h2⟩ := this
    exact ⟨h1, by rw [h2, hz _ h2]⟩
theorem unit_hc {h0 h : Hp} (e0 : Ext h0 h) (t0 : Tab h0) {g gm : Nat} (hg0 : h0.size ≤ g) (hm0 : h0.size ≤ gm) {bp : Option Addr} {bl bc : Nat} {full : Bt} (v : VwB h0 bp bl full) (hc : bl ≤ bc) (hl : full.length ≤ 2 ^ 60)
    (bg : Box h g 63 [.slice bp bl bc, .int .i64 (0 : Nat), .pointer none, .map (some gm)]) (m0 : SetB h gm []) (hgm : g ≠ gm) :
    HC Tryz.prog 20 #[ptr g] h (UntEnd h g gm bp bl bc full) := by
  refine hcr_of (args := [ptr g]) mixed Tryz.func20 (by kernel_rfl) (t_object_reader__unit_eq (some ⟨g, 0, none⟩)) ?_
  unfold t_object_reader__unit
  have hgl := bg.lt
  have hml := m0.lt
  have hll := v.len
  refine newB ?_
  intro h1 b1 e1 z1
  refine newB ?_
  intro h2 b2 e2 z2
  refine newB ?_
  intro h3 b3 e3 z3
  have b1 := (b1.keep e2 (by simp)).keep e3 (by simp)
  have b2 := b2.keep e3 (by simp)
  have e03 := (e1.trans e2).trans e3
  have bg3 := bg.keep e03 (by simp)
  have m3 := m0.keep e03 (by simp)
  have n1 : h1.size ≠ h.size := by omega
  rw [z2, z1] at b3
  rw [z1] at b2
  rw [z2, z1]
  refine loop_of (cs := [(false, [.int .i64])]) (fun y m h' => ∃ i : Nat, y.1 = (i : Int) ∧ m = 5 - i ∧ i ≤ 5 ∧ i ≤ full.length ∧ h' = h3 ∧ headR headL full = headR (headL.drop i) (full.drop i)) ((0 : Int), ()) 5 rfl ⟨0, rfl, rfl, by omega, by omega, rfl, rfl⟩ ?_
  rintro ⟨n4, ⟨⟩⟩ m h4 ⟨i, hi, rfl, hi5, hif, rfl, hh⟩
  simp only at hi
  subst hi
  dsimp only [flat, unc, unc1, List.nil_append, List.cons_append]
  have s3 : ∀ r, full.drop 0 = r → RdS h4 g gm bp bl bc full (.ok r) [] := fun r hr => ⟨0, none, bg3, by omega, m3, hgm, rfl, hr⟩
  have bad : headR headL full = .error (full.length - i, 15) → (T.call Tryz.prog 49 [ptr g, .int .i64 (i : Int), .int .i64 (15 : Int)] true [] (retT (h.size + 1) (h.size + 1 + 1))) [Jl (cs := [(false, [.int .i64])]) (fun y m h' => ∃ i : Nat, y.1 = (i : Int) ∧ m = 5 - i ∧ i ≤ 5 ∧ i ≤ full.length ∧ h' = h4 ∧ headR headL full = headR (headL.drop i) (full.drop i)) (5 - i)] (UntEnd h g gm bp bl bc full) h4 := by
    intro hb
    refine call_of (refuse_hc (s3 _ rfl) (i := i) (why := 15) hif) ?_
    rintro _ h5 ⟨rfl, s5, k5⟩
    refine ⟨(), rfl, ?_⟩
    dsimp only [flat, unc, unc1, List.nil_append, List.cons_append]
    refine retT_of (a := sl0) (b := sl0) (c := sl0) (d := sl0) (u := unt0) hgl hml (by omega) (b3.keep k5 (by simp; omega)) (b2.keep k5 (by simp; omega)) rfl (UntOwn.zero _ _) s5 ?_ ((e03.mono (by simp)).trans k5 (by simp))
    exact unitE_head (e := (full.length - i, 15)) hb
  refine cond_mk (fun q => ?_) (fun q => ?_)
  · have q := of_decide_eq_true q
    refine loads_box b1 (some ⟨g, 0, none⟩, ()) rfl ?_
    dsimp only [flat, unc, unc1, List.nil_append, List.cons_append]
    refine osome_mk rfl ?_
    refine loads_box bg3 ((bp, bl, bc), ()) rfl ?_
    dsimp only [flat, unc, unc1, List.nil_append, List.cons_append]
    refine cond_mk (fun w => ?_) (fun w => ?_)
    · have w : i = bl := eqN_t w
      refine loads_box b1 (some ⟨g, 0, none⟩, ()) rfl ?_
      dsimp only [flat, unc, unc1, List.nil_append, List.cons_append]
      exact bad (by rw [hh]; exact headR_end (by omega) (by omega))
    have w : ¬ i = bl := eqN_f w
    have hlt : i < full.length := by omega
    refine loads_box b1 (some ⟨g, 0, none⟩, ()) rfl ?_
    dsimp only [flat, unc, unc1, List.nil_append, List.cons_append]
    refine osome_mk rfl ?_
    refine loads_box bg3 ((bp, bl, bc), ()) rfl ?_
    dsimp only [flat, unc, unc1, List.nil_append, List.cons_append]
    refine need_of ⟨by omega, by omega⟩ ?_
    obtain ⟨ba, rfl, hcell⟩ := (v.keep (e0.trans e03)).cells i hlt
    refine osome_mk rfl ?_
    rw [show Int.toNat (i : Int) = i from rfl]
    refine loads_of (((full[i].toNat : Nat) : Int), ()) hcell ?_
    dsimp only [flat, unc, unc1, List.nil_append, List.cons_append]
    refine need_of ⟨by omega, by omega⟩ ?_
    rw [sbyte5 (by omega)]
    have heq : (((full[i].toNat : Nat) : Int) != (((headL.getD i 0).toNat : Nat) : Int)) = !decide (full[i] = headL.getD i 0) := by
      by_cases hx : full[i] = headL.getD i 0
      · rw [decide_eq_true hx, hx]; simp
      · rw [decide_eq_false hx]
        have : ¬ full[i].toNat = (headL.getD i 0).toNat := fun e => hx (UInt8.toNat_inj.1 e)
        simp only [bne_iff_ne, ne_eq, Bool.not_false]
        omega
    refine cond_mk (fun u => ?_) (fun u => ?_)
    · rw [heq] at u
      have u : ¬ full[i] = headL.getD i 0 := by simpa using u
      refine loads_box b1 (some ⟨g, 0, none⟩, ()) rfl ?_
      dsimp only [flat, unc, unc1, List.nil_append, List.cons_append]
      exact bad (by rw [hh]; exact headR_neq (by omega) hlt u)
    · rw [heq] at u
      have u : full[i] = headL.getD i 0 := by simpa using u
      rw [wrap_i64 (by omega) (by omega)]
      refine again_mk (cs := [(false, [.int .i64])]) (((i + 1 : Nat) : Int), ()) (5 - (i + 1)) rfl (by omega) rfl ?_
      exact ⟨i + 1, rfl, rfl, by omega, by omega, rfl, by rw [hh]; exact headR_step (by omega) hlt u⟩
  have q := of_decide_eq_false q
  have : i = 5 := by omega
  subst this
  clear bad
  have hh5 : headR headL full = .ok (⟨⟩, full.drop 5) := hh
  have h5f : 5 ≤ full.length := hif
  refine loads_box b1 (some ⟨g, 0, none⟩, ()) rfl ?_
  dsimp only [flat, unc, unc1, List.nil_append, List.cons_append]
  refine osome_mk rfl ?_
  rw [add_box]
  refine stores_of bg3 rfl (by simp) ?_
  intro h5 bg5 k5 z5
  have s5 : RdS h5 g gm bp bl bc full (.ok (full.drop 5)) [] := ⟨5, none, bg5, by omega, m3.keep k5 (by simp; omega), hgm, rfl, rfl⟩
  have b15 := b1.keep k5 (by simp; omega)
  have b25 := b2.keep k5 (by simp; omega)
  have b35 := b3.keep k5 (by simp; omega)
  have k5 : Ch [g, gm] h h5 := (e03.mono (by simp)).trans k5 (by simp)
  have e5 : Ext h0 h5 := Ch.trans e0 k5 (fun i hi hl => by simp at hi; omega)
  clear s3 b1 b2 b3 m3 bg3 hh q
  -- items
  refine loads_box b15 (some ⟨g, 0, none⟩, ()) rfl ?_
  dsimp only [flat, unc, unc1, List.nil_append, List.cons_append]
  refine call_of (rowsI_hc hb33 (sec := 0) (a := h.size) (by omega) (by omega) (fun e s ba => clos_hc (fn := Tryz.f51) (sec := 0) (by decide) Tryz.func51 (by kernel_rfl) t_object_reader__unit_1_u1_eq e t0 hg0 s v hc hl ba) e5 hg0 hm0 v hl s5 b15 (some 8192)) ?_
  rintro _ h6 ⟨tI, st6, p6, l6, c6, rfl, ls6, hn6, s6, q6, k6⟩
  refine ⟨((p6, l6, c6), ()), rfl, ?_⟩
  dsimp only [flat, unc, unc1, List.nil_append, List.cons_append]
  have b16 := b15.keep k6 (by simp; omega)
  have b26 := b25.keep k6 (by simp; omega)
  have b36 := b35.keep k6 (by simp; omega)
  have z6 := k6.size
  have k06 : Ch [g, gm] h h6 := k5.trans k6 (fun i hi _ => hi)
  refine stores_of b36 rfl (by simp) ?_
  intro h7 b37 k7 z7
  have b37 : Box h7 (h.size + 1 + 1) 28 [.slice p6 l6 c6, .slice none 0 0, .slice none 0 0, .slice none 0 0] := b37
  have s7 := s6.keep1 b36 (by decide) k7 (by omega) (by omega)
  have b17 := b16.keep k7 (by rw [List.mem_singleton]; omega)
  have b27 := b26.keep k7 (by rw [List.mem_singleton]; omega)
  have ls7 := ls6.keep k7 (fun i hi _ => by simp at hi; omega)
  have k07 : Ch [g, gm] h h7 := k06.trans k7 (fun i hi hl => by simp at hi; omega)
  have e7 : Ext h0 h7 := Ch.trans e0 k07 (fun i hi hl => by simp at hi; omega)
  have hlen7 := ls7.len
  refine loads_box b17 (some ⟨g, 0, none⟩, ()) rfl ?_
  dsimp only [flat, unc, unc1, List.nil_append, List.cons_append]
  refine loads_box b37 ((p6, l6, c6), ()) rfl ?_
  dsimp only [flat, unc, unc1, List.nil_append, List.cons_append]
  rw [wrap_i64 (by omega) (by omega)]
  refine max0_of ?_
  rw [show max ((8192 : Int) - (l6 : Int)) 0 = mostI (some (8192 - (tI.map (·.2)).length)) by show _ = (((8192 - (tI.map (·.2)).length : Nat)) : Int); rw [List.length_map]; omega]
  refine call_of (rowsI_hc hb35 (sec := 1) (a := h.size) (by omega) (by omega) (fun e s ba => clos_hc (fn := Tryz.f53) (sec := 1) (by decide) Tryz.func53 (by kernel_rfl) t_object_reader__unit_2_u2_eq e t0 hg0 s v hc hl ba) e7 hg0 hm0 v hl s7 b17 _) ?_
  rintro _ h8 ⟨dI, st8, p8, l8, c8, rfl, ls8, hn8, s8, q8, k8⟩
  refine ⟨((p8, l8, c8), ()), rfl, ?_⟩
  dsimp only [flat, unc, unc1, List.nil_append, List.cons_append]
  have b18 := b17.keep k8 (by simp; omega)
  have b28 := b27.keep k8 (by simp; omega)
  have b38 := b37.keep k8 (by simp; omega)
  have z8 := k8.size
  have lsI8 := ls7.keep k8 (fun i hi _ => by simp at hi; omega)
  have k08 : Ch [g, gm] h h8 := k07.trans k8 (fun i hi _ => hi)
  rw [add_box]
  refine stores_of b38 rfl (by simp) ?_
  intro h9 b39 k9 z9
  have b39 : Box h9 (h.size + 1 + 1) 28 [.slice p6 l6 c6, .slice p8 l8 c8, .slice none 0 0, .slice none 0 0] := b39
  have s9 := s8.keep1 b38 (by decide) k9 (by omega) (by omega)
  have b19 := b18.keep k9 (by rw [List.mem_singleton]; omega)
  have b29 := b28.keep k9 (by rw [List.mem_singleton]; omega)
  have lsI9 := lsI8.keep k9 (fun i hi _ => by simp at hi; omega)
  have lsD9 := ls8.keep k9 (fun i hi _ => by simp at hi; omega)
  have k09 : Ch [g, gm] h h9 := k08.trans k9 (fun i hi hl => by simp at hi; omega)
  have e9 : Ext h0 h9 := Ch.trans e0 k09 (fun i hi hl => by simp at hi; omega)
  clear b18 b28 b38 b17 b27 b37 b16 b26 b36 b15 b25 b35 s7 s8 s6 s5 ls6 ls7 lsI8 ls8
  -- equs
  refine loads_box b19 (some ⟨g, 0, none⟩, ()) rfl ?_
  dsimp only [flat, unc, unc1, List.nil_append, List.cons_append]
  refine loads_box b19 (some ⟨g, 0, none⟩, ()) rfl ?_
  dsimp only [flat, unc, unc1, List.nil_append, List.cons_append]
  refine call_of (rowsE_hc e9 hg0 hm0 v hc hl s9 (some 8192)) ?_
  rintro _ h10 ⟨eE, st10, p10, l10, c10, rfl, ls10, hn10, s10, q10, k10⟩
  refine ⟨((p10, l10, c10), ()), rfl, ?_⟩
  dsimp only [flat, unc, unc1, List.nil_append, List.cons_append]
  have b110 := b19.keep k10 (by simp; omega)
  have b210 := b29.keep k10 (by simp; omega)
  have b310 := b39.keep k10 (by simp; omega)
  have z10 := k10.size
  have lsI10 := lsI9.keep k10 (fun i hi _ => by simp at hi; omega)
  have lsD10 := lsD9.keep k10 (fun i hi _ => by simp at hi; omega)
  have k010 : Ch [g, gm] h h10 := k09.trans k10 (fun i hi _ => hi)
  rw [add_box]
  refine stores_of b310 rfl (by simp) ?_
  intro h11 b311 k11 z11
  have b311 : Box h11 (h.size + 1 + 1) 28 [.slice p6 l6 c6, .slice p8 l8 c8, .slice p10 l10 c10, .slice none 0 0] := b311
  have s11 := s10.keep1 b310 (by decide) k11 (by omega) (by omega)
  have b111 := b110.keep k11 (by rw [List.mem_singleton]; omega)
  have b211 := b210.keep k11 (by rw [List.mem_singleton]; omega)
  have lsI11 := lsI10.keep k11 (fun i hi _ => by simp at hi; omega)
  have lsD11 := lsD10.keep k11 (fun i hi _ => by simp at hi; omega)
  have lsE11 := ls10.keep k11 (fun i hi _ => by simp at hi; omega)
  have k011 : Ch [g, gm] h h11 := k010.trans k11 (fun i hi hl => by simp at hi; omega)
  clear b110 b210 b310 b19 b29 b39 s10 s9 lsI10 lsD10 ls10 lsI9 lsD9
  -- names
  refine newB ?_
  intro h12 b12 e12 z12
  have s12 := s11.keep e12
  have b112 := b111.keep e12 (by simp)
  have b212 := b211.keep e12 (by simp)
  have b312 := b311.keep e12 (by simp)
  have lsI12 := lsI11.keep e12 (by simp)
  have lsD12 := lsD11.keep e12 (by simp)
  have lsE12 := lsE11.keep e12 (by simp)
  have k012 : Ch [g, gm] h h12 := k011.trans e12 (by simp)
  refine stores_of b12 rfl (by simp) ?_
  intro h13 b13 k13 z13
  have b13 : Box h13 h11.size 9 [.string nam0] := b13
  have s13 := s12.keep1 b12 (by decide) k13 (by omega) (by omega)
  have b113 := b112.keep k13 (by rw [List.mem_singleton]; omega)
  have b213 := b212.keep k13 (by rw [List.mem_singleton]; omega)
  have b313 := b312.keep k13 (by rw [List.mem_singleton]; omega)
  have hb9 : ∀ i, i ∈ [h11.size] → ∃ ys, Box h12 i 9 ys := fun i hi => by rw [List.mem_singleton.1 hi]; exact ⟨_, b12⟩
  have lsI13 : LsI h13 h5.size p6 l6 c6 tI := ⟨SL.keepU lsI12.sl k13 hb9 (by decide), fun u hu => SL.keepU (lsI12.own u hu) k13 hb9 (by decide), lsI12.ok⟩
  have lsD13 : LsI h13 h7.size p8 l8 c8 dI := ⟨SL.keepU lsD12.sl k13 hb9 (by decide), fun u hu => SL.keepU (lsD12.own u hu) k13 hb9 (by decide), lsD12.ok⟩
  have lsE13 : LsE h13 h9.size p10 l10 c10 eE := ⟨SL.keepU lsE12.sl k13 hb9 (by decide), fun u hu => SL.keepU (lsE12.own u hu) k13 hb9 (by decide), lsE12.ok⟩
  have k013 : Ch [g, gm] h h13 := k012.trans k13 (fun i hi hl => by simp at hi; omega)
  have e13 : Ext h0 h13 := Ch.trans e0 k013 (fun i hi hl => by simp at hi; omega)
  clear b112 b212 b312 b111 b211 b311 s12 s11 lsI11 lsD11 lsE11
  refine loads_box b113 (some ⟨g, 0, none⟩, ()) rfl ?_
  dsimp only [flat, unc, unc1, List.nil_append, List.cons_append]
  refine call_of (rowsS_hc (a := h.size) (b := h11.size) (o := nam0) (by omega) (by omega) (by omega) (by omega) e13 hg0 hm0 (by have := e0.size; omega) v hc hl s13 b113 b13 none) ?_
  rintro _ h14 ⟨gS, st14, p14, l14, c14, rfl, ls14, hn14, s14, q14, k14⟩
  refine ⟨((p14, l14, c14), ()), rfl, ?_⟩
  dsimp only [flat, unc, unc1, List.nil_append, List.cons_append]
  have b114 := b113.keep k14 (by simp; omega)
  have b214 := b213.keep k14 (by simp; omega)
  have b314 := b313.keep k14 (by simp; omega)
  have z14 := k14.size
  have hw14 : ∀ (e : TypeId) (b : Nat), e ≠ 9 → h.size ≤ b → ∀ i, i ∈ [g, h11.size] → i < h13.size → i < b ∨ ∃ e' ys, Box h13 i e' ys ∧ e' ≠ e ∧ e' ≠ 104 := by
    intro e b he hb i hi _
    simp at hi
    rcases hi with rfl | rfl
    · exact .inl (by omega)
    · exact .inr ⟨9, _, b13, fun e => he e.symm, by decide⟩
  have lsI14 := Ls.keepW lsI13 k14 (hw14 _ _ (by decide) (by omega))
  have lsD14 := Ls.keepW lsD13 k14 (hw14 _ _ (by decide) (by omega))
  have lsE14 := Ls.keepW lsE13 k14 (hw14 _ _ (by decide) (by omega))
  have k014 : Ch [g, gm] h h14 := k013.trans k14 (fun i hi hl => by simp at hi; simp; omega)
  clear lsI13 lsD13 lsE13 lsI12 lsD12 lsE12 b113 b213 b313 s13
  rw [add_box]
  refine stores_of b314 rfl (by simp) ?_
  intro h15 b315 k15 z15
  have b315 : Box h15 (h.size + 1 + 1) 28 [(⟨p6, l6, c6⟩ : Sli).v, (⟨p8, l8, c8⟩ : Sli).v, (⟨p10, l10, c10⟩ : Sli).v, (⟨p14, l14, c14⟩ : Sli).v] := b315
  have s15 := s14.keep1 b314 (by decide) k15 (by omega) (by omega)
  have b115 := b114.keep k15 (by rw [List.mem_singleton]; omega)
  have b215 := b214.keep k15 (by rw [List.mem_singleton]; omega)
  have hw15 : ∀ (e : TypeId) (b : Nat), e ≠ 28 → ∀ i, i ∈ [h.size + 1 + 1] → i < h14.size → i < b ∨ ∃ e' ys, Box h14 i e' ys ∧ e' ≠ e ∧ e' ≠ 104 := by
    intro e b he i hi _
    rw [List.mem_singleton.1 hi]
    exact .inr ⟨28, _, b314, fun e => he e.symm, by decide⟩
  have lsI15 := Ls.keepW lsI14 k15 (hw15 _ _ (by decide))
  have lsD15 := Ls.keepW lsD14 k15 (hw15 _ _ (by decide))
  have lsE15 := Ls.keepW lsE14 k15 (hw15 _ _ (by decide))
  have lsS15 := Ls.keepW ls14 k15 (hw15 _ _ (by decide))
  have k015 : Ch [g, gm] h h15 := k014.trans k15 (fun i hi hl => by simp at hi; omega)
  have own : UntOwn h15 (h.size + 1 + 1) ⟨p6, l6, c6⟩ ⟨p8, l8, c8⟩ ⟨p10, l10, c10⟩ ⟨p14, l14, c14⟩ ⟨tI.map (·.2), dI.map (·.2), eE.map (·.2), gS.map (·.2)⟩ :=
    ⟨⟨tI, rfl, hn6, lsI15.mono (by omega)⟩, ⟨dI, rfl, hn8, lsD15.mono (by omega)⟩, ⟨eE, rfl, hn10, lsE15.mono (by omega)⟩, ⟨gS, rfl, hn14, lsS15.mono (by omega)⟩⟩
  have tail : Stp tailR (.ok (full.drop 5)) ⟨tI.map (·.2), dI.map (·.2), eE.map (·.2), gS.map (·.2)⟩ st14 := Stp.tail q6 q8 q10 q14
  clear lsI15 lsD15 lsE15 lsS15 lsI14 lsD14 lsE14 ls14
  refine loads_box b115 (some ⟨g, 0, none⟩, ()) rfl ?_
  dsimp only [flat, unc, unc1, List.nil_append, List.cons_append]
  obtain ⟨at_, no, bx, hat, mx, hgx, nx⟩ := id s15
  refine osome_mk rfl ?_
  rw [add_box]
  refine loads_box bx (no, ()) rfl ?_
  dsimp only [flat, unc, unc1, List.nil_append, List.cons_append]
  cases st14 with
  | error er =>
    obtain ⟨_, a, rfl, _⟩ := nx
    refine cond_f rfl ?_
    exact retT_of hgl hml (by omega) b315 b215 rfl own s15 (unitE_tail hh5 tail (Stp.off _ _ _) (fun r' h => by cases h)) k015
  | ok r =>
    obtain ⟨rfl, hr⟩ := nx
    refine cond_t rfl ?_
    refine loads_box b115 (some ⟨g, 0, none⟩, ()) rfl ?_
    dsimp only [flat, unc, unc1, List.nil_append, List.cons_append]
    refine osome_mk rfl ?_
    rw [add_box]
    refine loads_box bx ((at_ : Int), ()) rfl ?_
    dsimp only [flat, unc, unc1, List.nil_append, List.cons_append]
    refine loads_box b115 (some ⟨g, 0, none⟩, ()) rfl ?_
    dsimp only [flat, unc, unc1, List.nil_append, List.cons_append]
    refine osome_mk rfl ?_
    refine loads_box bx ((bp, bl, bc), ()) rfl ?_
    dsimp only [flat, unc, unc1, List.nil_append, List.cons_append]
    have hrl : r.length = full.length - at_ := by rw [← hr, List.length_drop]
    refine cond_mk (fun w => ?_) (fun w => ?_)
    · have w := of_decide_eq_true w
      have hne : r ≠ [] := by
        intro e
        rw [e] at hrl
        simp at hrl
        omega
      refine loads_box b115 (some ⟨g, 0, none⟩, ()) rfl ?_
      dsimp only [flat, unc, unc1, List.nil_append, List.cons_append]
      refine loads_box b115 (some ⟨g, 0, none⟩, ()) rfl ?_
      dsimp only [flat, unc, unc1, List.nil_append, List.cons_append]
      refine osome_mk rfl ?_
      rw [add_box]
      refine loads_box bx ((at_ : Int), ()) rfl ?_
      dsimp only [flat, unc, unc1, List.nil_append, List.cons_append]
      refine call_of (refuse_hc s15 (i := at_) (why := 14) hat) ?_
      rintro _ h16 ⟨rfl, s16, k16⟩
      refine ⟨(), rfl, ?_⟩
      dsimp only [flat, unc, unc1, List.nil_append, List.cons_append]
      refine ⟨⟨(b115.keep k16 (by rw [List.mem_singleton]; omega)).cells _ rfl, trivial⟩, ?_⟩
      refine retT_of hgl hml (by omega) (b315.keep k16 (by rw [List.mem_singleton]; omega)) (b215.keep k16 (by rw [List.mem_singleton]; omega)) rfl (own.keep k16 (fun i hi _ => by simp at hi; omega)) s16 (unitE_tail hh5 tail ?_ (fun r' h => by cases h)) (k015.trans k16 (by simp))
      show Stp _ _ _ (.error (full.length - at_, 14))
      unfold Stp endR
      simp only
      rw [if_neg hne, hrl]
    · have w := of_decide_eq_false w
      have hr0 : r = [] := List.eq_nil_of_length_eq_zero (by omega)
      subst hr0
      exact retT_of hgl hml (by omega) b315 b215 rfl own s15 (unitE_tail hh5 tail (by
        unfold Stp endR
        simp only
        exact ⟨rfl, rfl⟩) (fun r' h => by cases h; rfl)) k015
end Go.Sx.Ob

set_option linter.unusedVariables false
set_option linter.unusedSimpArgs false
set_option maxRecDepth 100000
namespace Go.Sx.Ob
open Go.Proofs
/-- A unit, or where and why there is none. -/
def readR (full : Bt) : Except (Nat × Nat) Unt :=
  if 1048576 < full.length then .error (0, 3) else match unitR full with
    | .ok q => .ok q.1
    | .error e => .error (full.length - e.1, e.2)
/-- An error that is a refusal, or none. -/
def ErrAt (h : Hp) (w : Value) (e : Option (Nat × Nat)) : Prop :=
  match e with
  | none => w = .nilIface
  | some e => ∃ a, w = .iface 57 (ptr a) ∧ Box h a 59 [.int .i64 (e.1 : Nat), .int .i64 (e.2 : Nat)]
def ReadE (full : Bt) (u : Unt) : Option (Nat × Nat) → Prop
  | none => readR full = .ok u
  | some e => readR full = .error e ∧ u = unt0
theorem read_hc {h : Hp} (t0 : Tab h) {bp : Option Addr} {bl bc : Nat} {full : Bt} (v : VwB h bp bl full) (hc : bl ≤ bc) (hl : full.length ≤ 2 ^ 60) :
    HC Tryz.prog 6 #[.slice bp bl bc] h fun w h' => ∃ (a b c d : Sli) (ev : Value) (u : Unt) (e : Option (Nat × Nat)), w = .tuple #[untV a b c d, ev] ∧ UntOwn h' h.size a b c d u ∧ ErrAt h' ev e ∧ ReadE full u e ∧ (e ≠ none → a = sl0 ∧ b = sl0 ∧ c = sl0 ∧ d = sl0) ∧ Ext h h' := by
  refine hcr_of (args := [.slice bp bl bc]) mixed Tryz.func6 (by kernel_rfl) (t_object_Read_eq bp bl bc) ?_
  unfold t_object_Read
  have hll := v.len
  refine newB ?_
  intro h1 b1 e1 z1
  refine cond_mk (fun q => ?_) (fun q => ?_)
  · have q := of_decide_eq_true q
    refine newB ?_
    intro h2 b2 e2 z2
    have b12 := b1.keep e2 (by simp)
    refine stores_of b12 rfl (by simp) ?_
    intro h3 b3 k3 z3
    have b3 : Box h3 h.size 28 zU := b3
    refine loads_box b3 ((none, 0, 0), (none, 0, 0), (none, 0, 0), (none, 0, 0), ()) rfl ?_
    dsimp only [flat, unc, unc1, List.nil_append, List.cons_append]
    refine ⟨sl0, sl0, sl0, sl0, _, unt0, some (0, 3), rfl, UntOwn.zero _ _, ⟨h1.size, rfl, b2.keep k3 (by rw [List.mem_singleton]; omega)⟩, ⟨?_, rfl⟩, fun _ => ⟨rfl, rfl, rfl, rfl⟩, (e1.trans e2).st k3 (Nat.le_refl _)⟩
    unfold readR
    rw [if_pos (by omega)]
  have q := of_decide_eq_false q
  have hrd : readR full = match unitR full with
    | .ok q => .ok q.1
    | .error e => .error (full.length - e.1, e.2) := by
    unfold readR
    rw [if_neg (by omega)]
  refine makeS ?_
  intro h2 m2 e2 z2
  refine newB ?_
  intro h3 b3 e3 z3
  have e03 := (e1.trans e2).trans e3
  have b13 := (b1.keep e2 (by simp)).keep e3 (by simp)
  refine call_of (unit_hc e03 t0 (g := h2.size) (gm := h1.size) (by omega) (by omega) v hc hl b3 (m2.keep e3 (by simp)) (by omega)) ?_
  rintro _ h4 ⟨a, b, c, d, u, st, D, rfl, own, s4, ue, k4⟩
  refine ⟨((a.p, a.l, a.c), (b.p, b.l, b.c), (c.p, c.l, c.c), (d.p, d.l, d.c), ()), rfl, ?_⟩
  dsimp only [flat, unc, unc1, List.nil_append, List.cons_append]
  have b14 := b13.keep k4 (by simp; omega)
  have hz4 := k4.size
  refine newB ?_
  intro h5 b5 e5 z5
  have s5 := s4.keep e5
  have own5 := own.keep e5 (by simp)
  have b15 := b14.keep e5 (by simp)
  have k5 : Ch [h2.size, h1.size] h3 h5 := k4.trans e5 (by simp)
  refine stores_of b5 rfl (by simp) ?_
  intro h6 b6 k6 z6
  have b6 : Box h6 h4.size 28 [a.v, b.v, c.v, d.v] := b6
  have s6 := s5.keep1 b5 (by decide) k6 (by omega) (by omega)
  have own6 : UntOwn h6 (h.size + 1) a b c d u := by
    obtain ⟨⟨u1, a1, c1, d1⟩, ⟨u2, a2, c2, d2⟩, ⟨u3, a3, c3, d3⟩, ⟨u4, a4, c4, d4⟩⟩ := own5
    have hw : ∀ (e : TypeId) (b : Nat), e ≠ 28 → ∀ i, i ∈ [h4.size] → i < h5.size → i < b ∨ ∃ e' ys, Box h5 i e' ys ∧ e' ≠ e ∧ e' ≠ 104 := by
      intro e b he i hi _
      rw [List.mem_singleton.1 hi]
      exact .inr ⟨28, _, b5, fun e => he e.symm, by decide⟩
    exact ⟨⟨u1, a1, c1, (Ls.keepW d1 k6 (hw _ _ (by decide))).mono (by omega)⟩, ⟨u2, a2, c2, (Ls.keepW d2 k6 (hw _ _ (by decide))).mono (by omega)⟩, ⟨u3, a3, c3, (Ls.keepW d3 k6 (hw _ _ (by decide))).mono (by omega)⟩, ⟨u4, a4, c4, (Ls.keepW d4 k6 (hw _ _ (by decide))).mono (by omega)⟩⟩
  have b16 := b15.keep k6 (by rw [List.mem_singleton]; omega)
  have e6 : Ext h h6 := Ch.trans e03 (k5.trans k6 (vs := [h4.size]) (ws := [h2.size, h1.size]) (fun i hi hl => by simp at hi; omega)) (fun i hi hl => by simp at hi; omega)
  clear s5 own5 b15 k5 s4 own b14 b13 b1
  obtain ⟨at_, no, bx, hat, mx, hgx, nx⟩ := id s6
  rw [add_box]
  refine loads_box bx (no, ()) rfl ?_
  dsimp only [flat, unc, unc1, List.nil_append, List.cons_append]
  cases st with
  | error er =>
    obtain ⟨her, a', rfl, ba', _⟩ := nx
    refine cond_t rfl ?_
    refine loads_box bx (some ⟨a', 0, none⟩, ()) rfl ?_
    dsimp only [flat, unc, unc1, List.nil_append, List.cons_append]
    have hne : a' ≠ h.size := by
      intro e
      subst e
      unfold Box at ba' b16
      rw [ba'] at b16
      simp at b16
    refine stores_of b16 rfl (by simp) ?_
    intro h7 b7 k7 z7
    have b7 : Box h7 h.size 28 zU := b7
    refine ⟨⟨(bx.keep k7 (by rw [List.mem_singleton]; omega)).cells _ rfl, trivial⟩, ?_⟩
    refine loads_box b7 ((none, 0, 0), (none, 0, 0), (none, 0, 0), (none, 0, 0), ()) rfl ?_
    dsimp only [flat, unc, unc1, List.nil_append, List.cons_append]
    refine ⟨sl0, sl0, sl0, sl0, _, unt0, some (full.length - er.1, er.2), rfl, UntOwn.zero _ _, ⟨a', rfl, ba'.keep k7 (by rw [List.mem_singleton]; omega)⟩, ⟨?_, rfl⟩, fun _ => ⟨rfl, rfl, rfl, rfl⟩, e6.st k7 (Nat.le_refl _)⟩
    rw [hrd]
    unfold UnitE at ue
    cases hu : unitR full with
    | error e => rw [hu] at ue; cases ue; rfl
    | ok q => rw [hu] at ue; cases ue.2
  | ok r =>
    obtain ⟨rfl, hr⟩ := nx
    refine cond_f rfl ?_
    refine loads_box b6 ((a.p, a.l, a.c), (b.p, b.l, b.c), (c.p, c.l, c.c), (d.p, d.l, d.c), ()) rfl ?_
    dsimp only [flat, unc, unc1, List.nil_append, List.cons_append]
    refine stores_of b16 rfl (by simp) ?_
    intro h7 b7 k7 z7
    have b7 : Box h7 h.size 28 [a.v, b.v, c.v, d.v] := b7
    refine loads_box b7 ((a.p, a.l, a.c), (b.p, b.l, b.c), (c.p, c.l, c.c), (d.p, d.l, d.c), ()) rfl ?_
    refine ⟨a, b, c, d, _, u, none, rfl, (own6.keep k7 (fun i hi hl => by simp at hi; omega)).mono (by omega), rfl, ?_, fun h => absurd rfl h, e6.st k7 (Nat.le_refl _)⟩
    show readR full = .ok u
    rw [hrd]
    unfold UnitE at ue
    cases hu : unitR full with
    | error e => rw [hu] at ue; cases ue
    | ok q => rw [hu] at ue; rw [ue.1]
end Go.Sx.Ob

set_option linter.unusedVariables false
set_option linter.unusedSimpArgs false
set_option maxRecDepth 100000
namespace Go.Sx.Ob
open Go.Proofs
theorem itm_ext {x y : Itm} (r1 : x.kind = y.kind) (r2 : x.name = y.name) (r3 : x.inst = y.inst) (r4 : x.e = y.e) (r5 : x.n = y.n) : x = y := by
  cases x
  cases y
  simp_all
theorem unt_ext {x y : Unt} (r1 : x.text = y.text) (r2 : x.data = y.data) (r3 : x.equs = y.equs) (r4 : x.globs = y.globs) : x = y := by
  cases x
  cases y
  simp_all
theorem cond_sw {L : Lp} {K : Value → Hp → Prop} {h : Hp} {b : Bool} {t u : T} (hu : b = false → u L K h) (ht : b = true → t L K h) : (cond b t u) L K h := cond_mk ht hu
def sameT (l0 l1 : Nat) (body : Int → T → T) : T :=
 cond ((l0 : Int) != (l1 : Int))
  (T.ret (.bool false))
  (T.loop [(false, [.bool]), (false, [.int .i64])] [.bool false, .int .i64 (0 : Int)] <| fun (b2 : Bool) (n3 : Int) =>
  cond (decide (n3 < (l0 : Int)))
   (body n3 (T.again 0 [.bool b2, .int .i64 (IntKind.wrap .i64 (n3 + (1 : Int)))]))
   (T.ret (.bool true)))
theorem getE {α : Type} {xs ys : List α} (e : xs = ys) {i : Nat} (h1 : i < xs.length) (h2 : i < ys.length) : xs[i] = ys[i] := by
  subst e
  rfl
theorem cellsAt_add {h : Hp} {a : Addr} : ∀ (vs : List Value) (o i : Nat), cellsAt h a (o + i) vs → cellsAt h (a.add o) i vs
  | [], _, _, _ => trivial
  | v :: vs, o, i, hc => ⟨by rw [add_add]; exact hc.1, cellsAt_add vs o (i + 1) hc.2⟩
/-- The answer whether two things are the same. -/
def Eqw {α : Type} (x y : α) (h : Hp) (w : Value) (h' : Hp) : Prop := ∃ b : Bool, w = .bool b ∧ (b = true ↔ x = y) ∧ Ext h h'
theorem sameT_of {α : Type} {xs ys : List α} {l0 l1 : Nat} (h0 : l0 = xs.length) (h1 : l1 = ys.length) (hm : xs.length ≤ 2 ^ 60) {body : Int → T → T} {h : Hp}
    (hb : ∀ (L : Lp) (h' : Hp) (i : Nat) (hi : i < xs.length) (hj : i < ys.length) (k : T), Ext h h' → (xs[i] = ys[i] → ∀ h'', Ext h h'' → k L (Eqw xs ys h) h'') → (xs[i] ≠ ys[i] → ∀ h'', Ext h h'' → Eqw xs ys h (.bool false) h'') → body (i : Int) k L (Eqw xs ys h) h') :
    sameT l0 l1 body [] (Eqw xs ys h) h := by
  subst h0 h1
  unfold sameT
  refine cond_mk (fun q => ?_) (fun q => ?_)
  · refine ⟨false, rfl, ⟨fun h => (by cases h), fun e => ?_⟩, Ch.refl _ _⟩
    rw [e] at q
    simp at q
  have q : xs.length = ys.length := by
    have : (((xs.length : Nat) : Int) == ((ys.length : Nat) : Int)) = true := by
      simpa using q
    exact eqN_t this
  refine loop_of (cs := [(false, [.bool]), (false, [.int .i64])]) (fun y m h' => ∃ i : Nat, y.1 = false ∧ y.2.1 = (i : Int) ∧ m = xs.length - i ∧ i ≤ xs.length ∧ Ext h h' ∧ ∀ j, (hj : j < i) → (h1 : j < xs.length) → (h2 : j < ys.length) → xs[j] = ys[j]) (false, (0 : Int), ()) xs.length rfl
    ⟨0, rfl, rfl, rfl, by omega, Ch.refl _ _, fun j hj => by omega⟩ ?_
  rintro ⟨b2, n3, ⟨⟩⟩ m h1 ⟨i, hy1, hy2, rfl, hi, e1, hj⟩
  simp only at hy1 hy2
  subst hy1 hy2
  dsimp only [flat, unc, unc1, List.nil_append, List.cons_append]
  refine cond_mk (fun r => ?_) (fun r => ?_)
  · have r := of_decide_eq_true r
    refine hb _ h1 i (by omega) (by omega) _ e1 (fun he h2 e2 => ?_) (fun hne h2 e2 => ?_)
    · rw [wrap_i64 (by omega) (by omega)]
      refine again_mk (cs := [(false, [.bool]), (false, [.int .i64])]) (false, ((i + 1 : Nat) : Int), ()) (xs.length - (i + 1)) rfl (by omega) rfl ?_
      refine ⟨i + 1, rfl, rfl, rfl, by omega, e2, fun j hj' a b => ?_⟩
      by_cases hji : j < i
      · exact hj j hji a b
      · have : j = i := by omega
        subst this
        exact he
    · exact ⟨false, rfl, ⟨fun h => (by cases h), fun e => absurd (getE e (by omega) (by omega)) hne⟩, e2⟩
  · have r := of_decide_eq_false r
    refine ⟨true, rfl, ⟨fun _ => ?_, fun _ => rfl⟩, e1⟩
    exact List.ext_getElem q fun j a b => hj j (by omega) a b
theorem beqL (s t : ByteArray) : (ByteArray.toList s == ByteArray.toList t) = decide (s = t) := by
  rw [ByteArray.toList_eq, ByteArray.toList_eq]
  by_cases h : s = t
  · rw [decide_eq_true h, h]; simp
  · rw [decide_eq_false h]
    have : ¬ s.data.toList = t.data.toList := fun e => h (ba_ext e)
    simpa using this
theorem linB_iff (x y : Lin) : linB x y = true ↔ x = y := by
  obtain ⟨a, b⟩ := x
  obtain ⟨c, d⟩ := y
  unfold linB
  simp
  exact and_comm
theorem sameStr_hc {h : Hp} {p q : Option Addr} {l c m d : Nat} {xs ys : List ByteArray} (v : VwS h p l xs) (w : VwS h q m ys) : HC Tryz.prog 33 #[.slice p l c, .slice q m d] h (Eqw xs ys h) := by
  refine hcr_of (args := [.slice p l c, .slice q m d]) mixed Tryz.func33 (by kernel_rfl) (t_spandrelbook_Same_string__eq p l c q m d) ?_
  refine sameT_of (body := fun n3 k => T.need (((0 : Int) ≤ n3) ∧ (n3 < (l : Int))) <|
   T.osome p <| fun (a4 : Addr) =>
   T.loads (a4.add ((Int.toNat n3) * 1)) [.string] <| fun (s5 : ByteArray) =>
   T.need (((0 : Int) ≤ n3) ∧ (n3 < (m : Int))) <|
   T.osome q <| fun (a6 : Addr) =>
   T.loads (a6.add ((Int.toNat n3) * 1)) [.string] <| fun (s7 : ByteArray) =>
   cond (!((ByteArray.toList s5) == (ByteArray.toList s7)))
    (T.ret (.bool false)) k) v.len w.len v.many ?_
  intro L h' i hi hj k e1 hk hn
  have vl := v.len
  have wl := w.len
  obtain ⟨a, rfl, hc, _⟩ := (v.keep e1).cells i hi
  obtain ⟨b, rfl, hd, _⟩ := (w.keep e1).cells i hj
  refine need_of ⟨by omega, by omega⟩ ?_
  refine osome_mk rfl ?_
  refine loads_of (xs[i], ()) hc ?_
  dsimp only [flat, unc, unc1, List.nil_append, List.cons_append]
  refine need_of ⟨by omega, by omega⟩ ?_
  refine osome_mk rfl ?_
  refine loads_of (ys[i], ()) hd ?_
  dsimp only [flat, unc, unc1, List.nil_append, List.cons_append]
  rw [beqL]
  refine cond_mk (fun r => ?_) (fun r => ?_)
  · exact hn (by simpa using r) h' e1
  · exact hk (by simpa using r) h' e1
theorem sameByte_hc {h : Hp} {p q : Option Addr} {l c m d : Nat} {xs ys : Bt} (v : VwB h p l xs) (w : VwB h q m ys) (hl : xs.length ≤ 2 ^ 60) : HC Tryz.prog 34 #[.slice p l c, .slice q m d] h (Eqw xs ys h) := by
  refine hcr_of (args := [.slice p l c, .slice q m d]) mixed Tryz.func34 (by kernel_rfl) (t_spandrelbook_Same_byte__eq p l c q m d) ?_
  refine sameT_of (body := fun n3 k => T.need (((0 : Int) ≤ n3) ∧ (n3 < (l : Int))) <|
   T.osome p <| fun (a4 : Addr) =>
   T.loads (a4.add ((Int.toNat n3) * 1)) [.int .u8] <| fun (n5 : Int) =>
   T.need (((0 : Int) ≤ n3) ∧ (n3 < (m : Int))) <|
   T.osome q <| fun (a6 : Addr) =>
   T.loads (a6.add ((Int.toNat n3) * 1)) [.int .u8] <| fun (n7 : Int) =>
   cond (n5 != n7)
    (T.ret (.bool false)) k) v.len w.len hl ?_
  intro L h' i hi hj k e1 hk hn
  have vl := v.len
  have wl := w.len
  obtain ⟨a, rfl, hc⟩ := (v.keep e1).cells i hi
  obtain ⟨b, rfl, hd⟩ := (w.keep e1).cells i hj
  refine need_of ⟨by omega, by omega⟩ ?_
  refine osome_mk rfl ?_
  refine loads_of (((xs[i].toNat : Nat) : Int), ()) hc ?_
  dsimp only [flat, unc, unc1, List.nil_append, List.cons_append]
  refine need_of ⟨by omega, by omega⟩ ?_
  refine osome_mk rfl ?_
  refine loads_of (((ys[i].toNat : Nat) : Int), ()) hd ?_
  dsimp only [flat, unc, unc1, List.nil_append, List.cons_append]
  refine cond_mk (fun r => ?_) (fun r => ?_)
  · refine hn (fun e => ?_) h' e1
    rw [e] at r
    simp at r
  · refine hk ?_ h' e1
    have : (((xs[i].toNat : Nat) : Int) == ((ys[i].toNat : Nat) : Int)) = true := by simpa using r
    exact UInt8.toNat_inj.1 (eqN_t this)
theorem sameEqus_hc {h : Hp} {p q : Option Addr} {l c m d : Nat} {xs ys : List Eqn} (v : VwE h p l xs) (w : VwE h q m ys) : HC Tryz.prog 32 #[.slice p l c, .slice q m d] h (Eqw xs ys h) := by
  refine hcr_of (args := [.slice p l c, .slice q m d]) mixed Tryz.func32 (by kernel_rfl) (t_spandrelkeep_SameEqus_eq p l c q m d) ?_
  refine sameT_of (body := fun n3 k => T.need (((0 : Int) ≤ n3) ∧ (n3 < (l : Int))) <|
   T.osome p <| fun (a4 : Addr) =>
   T.loads (a4.add ((Int.toNat n3) * 3)) [.string] <| fun (s5 : ByteArray) =>
   T.need (((0 : Int) ≤ n3) ∧ (n3 < (m : Int))) <|
   T.osome q <| fun (a6 : Addr) =>
   T.loads (a6.add ((Int.toNat n3) * 3)) [.string] <| fun (s7 : ByteArray) =>
    cond (!((ByteArray.toList s5) == (ByteArray.toList s7)))
    (T.ret (.bool false))
    (T.need (((0 : Int) ≤ n3) ∧ (n3 < (l : Int))) <|
    T.osome p <| fun (a8 : Addr) =>
    T.loads ((a8.add ((Int.toNat n3) * 3)).add 1) [.slice 104, .int .u32] <| fun (p9 : Option Addr) (l10 : Nat) (l11 : Nat) (n12 : Int) =>
    T.need (((0 : Int) ≤ n3) ∧ (n3 < (m : Int))) <|
    T.osome q <| fun (a13 : Addr) =>
    T.loads ((a13.add ((Int.toNat n3) * 3)).add 1) [.slice 104, .int .u32] <| fun (p14 : Option Addr) (l15 : Nat) (l16 : Nat) (n17 : Int) =>
    T.call Tryz.prog 67 [.agg #[.slice p9 l10 l11, .int .u32 n12], .agg #[.slice p14 l15 l16, .int .u32 n17]] false [(false, [.bool])] <| fun (b18 : Bool) =>
    T.stable [((a6.add ((Int.toNat n3) * 3)), [.string s7]), ((a4.add ((Int.toNat n3) * 3)), [.string s5])] <|
    cond (!b18)
     (T.ret (.bool false)) k)) v.len w.len v.many ?_
  intro L h' i hi hj k e1 hk hn
  have vl := v.len
  have wl := w.len
  obtain ⟨a, p1, l1, c1, rfl, hc, va, _⟩ := (v.keep e1).cells i hi
  obtain ⟨b, q1, m1, d1, rfl, hd, wa, _⟩ := (w.keep e1).cells i hj
  refine need_of ⟨by omega, by omega⟩ ?_
  refine osome_mk rfl ?_
  refine loads_of (xs[i].1, ()) ⟨hc.1, trivial⟩ ?_
  dsimp only [flat, unc, unc1, List.nil_append, List.cons_append]
  refine need_of ⟨by omega, by omega⟩ ?_
  refine osome_mk rfl ?_
  refine loads_of (ys[i].1, ()) ⟨hd.1, trivial⟩ ?_
  dsimp only [flat, unc, unc1, List.nil_append, List.cons_append]
  rw [beqL]
  refine cond_mk (fun r => ?_) (fun r => ?_)
  · have r : ¬ xs[i].1 = ys[i].1 := by simpa using r
    exact hn (fun e => r (by rw [e])) h' e1
  have r : xs[i].1 = ys[i].1 := by simpa using r
  refine need_of ⟨by omega, by omega⟩ ?_
  refine osome_mk rfl ?_
  refine loads_of ((p1, l1, c1), (xs[i].2.num : Int), ()) (cellsAt_add _ 1 0 hc.2) ?_
  dsimp only [flat, unc, unc1, List.nil_append, List.cons_append]
  refine need_of ⟨by omega, by omega⟩ ?_
  refine osome_mk rfl ?_
  refine loads_of ((q1, m1, d1), (ys[i].2.num : Int), ()) (cellsAt_add _ 1 0 hd.2) ?_
  dsimp only [flat, unc, unc1, List.nil_append, List.cons_append]
  refine call_of (same48_hc (c := c1) (d := d1) va.vw wa.vw va.many) ?_
  rintro _ h2 ⟨rfl, e2⟩
  refine ⟨(linB xs[i].2 ys[i].2, ()), rfl, ?_⟩
  dsimp only [flat, unc, unc1, List.nil_append, List.cons_append]
  refine ⟨⟨⟨hcell_keep hd.1 e2 (by simp), trivial⟩, ⟨hcell_keep hc.1 e2 (by simp), trivial⟩, trivial⟩, ?_⟩
  refine cond_mk (fun u => ?_) (fun u => ?_)
  · have u : linB xs[i].2 ys[i].2 = false := by simpa using u
    refine hn (fun e => ?_) h2 (e1.trans e2)
    rw [(linB_iff _ _).2 (by rw [e])] at u
    cases u
  · have u : linB xs[i].2 ys[i].2 = true := by simpa using u
    exact hk (Prod.ext r ((linB_iff _ _).1 u)) h2 (e1.trans e2)
theorem cmpInsE (x y : Operand) (i j : Ins) (h : Hp) (K : Value → Hp → Prop) (hk : K (.bool (decide (i = j))) h) :
    semW Tryz.prog (Sx.cmpS (BinOp.eql) 100 x y (.agg (insC i).toArray) (.agg (insC j).toArray)) h K := by
  refine cmpS_eql ins77 (by kernel_rfl) (by kernel_rfl) (by kernel_rfl) K ?_
  have he : (flds Tryz.prog 100).all (eqF (insC i).toArray (insC j).toArray) = (i.op == j.op && (i.a == j.a && (i.b == j.b && (i.n == j.n && (i.form == j.form && true))))) := by
    rw [← Array.all_toList]
    kernel_rfl
  rw [he, Bool.and_true]
  have : (i.op == j.op && (i.a == j.a && (i.b == j.b && (i.n == j.n && i.form == j.form)))) = decide (i = j) := by
    rcases i with ⟨a1, a2, a3, a4, a5⟩
    rcases j with ⟨c1, c2, c3, c4, c5⟩
    simp only [beqD, Ins.mk.injEq]
    by_cases h1 : a1 = c1 <;> by_cases h2 : a2 = c2 <;> by_cases h3 : a3 = c3 <;> by_cases h4 : a4 = c4 <;> by_cases h5 : a5 = c5 <;> simp [h1, h2, h3, h4, h5]
  rw [this]
  exact hk
theorem sameItem_hc {h : Hp} {p q : Option Addr} {l c m d : Nat} {x y : Itm} (v : LinAt h p l x.e) (w : LinAt h q m y.e) : HC Tryz.prog 66 #[itmV p l c x, itmV q m d y] h (Eqw x y h) := by
  refine hcr_of (args := [itmV p l c x, itmV q m d y]) mixed Tryz.func66 (by kernel_rfl) (t_spandrelkeep_SameItem_eq x.kind x.name x.inst.op x.inst.a x.inst.b x.inst.n x.inst.form p l c x.e.num x.n y.kind y.name y.inst.op y.inst.a y.inst.b y.inst.n y.inst.form q m d y.e.num y.n) ?_
  unfold t_spandrelkeep_SameItem
  refine newB ?_
  intro h1 b1 e1 z1
  refine newB ?_
  intro h2 b2 e2 z2
  have b1 : Box h2 h.size 102 (encI p l c x) := b1.keep e2 (by simp)
  have b2 : Box h2 h1.size 102 (encI q m d y) := b2
  have e := e1.trans e2
  have no : ∀ h', Ext h h' → x ≠ y → Eqw x y h (.bool false) h' := fun h' e hn => ⟨false, rfl, ⟨fun h => (by cases h), fun e => absurd e hn⟩, e⟩
  simp only [add_box]
  refine loads_box b1 (x.kind, ()) rfl ?_
  dsimp only [flat, unc, unc1, List.nil_append, List.cons_append]
  refine loads_box b2 (y.kind, ()) rfl ?_
  dsimp only [flat, unc, unc1, List.nil_append, List.cons_append]
  refine cond_sw (fun r1 => ?_) (fun r1 => ?_)
  · have r1 : ¬ x.kind = y.kind := by simpa using r1
    exact no h2 e (fun e => r1 (by rw [e]))
  have r1 : x.kind = y.kind := by simpa using r1
  refine loads_box b1 (x.name, ()) rfl ?_
  dsimp only [flat, unc, unc1, List.nil_append, List.cons_append]
  refine loads_box b2 (y.name, ()) rfl ?_
  dsimp only [flat, unc, unc1, List.nil_append, List.cons_append]
  rw [beqL]
  refine cond_sw (fun r2 => ?_) (fun r2 => ?_)
  · have r2 : ¬ x.name = y.name := by simpa using r2
    exact no h2 e (fun e => r2 (by rw [e]))
  have r2 : x.name = y.name := by simpa using r2
  refine loads_box b1 (x.inst.op, x.inst.a, x.inst.b, x.inst.n, x.inst.form, ()) rfl ?_
  dsimp only [flat, unc, unc1, List.nil_append, List.cons_append]
  refine loads_box b2 (y.inst.op, y.inst.a, y.inst.b, y.inst.n, y.inst.form, ()) rfl ?_
  dsimp only [flat, unc, unc1, List.nil_append, List.cons_append]
  refine sem_bool (fun K' hK => cmpInsE _ _ x.inst y.inst h2 K' hK) ?_
  refine cond_sw (fun r3 => ?_) (fun r3 => ?_)
  · have r3 : ¬ x.inst = y.inst := by simpa using r3
    exact no h2 e (fun e => r3 (by rw [e]))
  have r3 : x.inst = y.inst := by simpa using r3
  refine loads_box b1 ((p, l, c), (x.e.num : Int), ()) rfl ?_
  dsimp only [flat, unc, unc1, List.nil_append, List.cons_append]
  refine loads_box b2 ((q, m, d), (y.e.num : Int), ()) rfl ?_
  dsimp only [flat, unc, unc1, List.nil_append, List.cons_append]
  refine call_of (same48_hc (c := c) (d := d) (v.keep e).vw (w.keep e).vw v.many) ?_
  rintro _ h3 ⟨rfl, e3⟩
  refine ⟨(linB x.e y.e, ()), rfl, ?_⟩
  dsimp only [flat, unc, unc1, List.nil_append, List.cons_append]
  refine cond_sw (fun r4 => ?_) (fun r4 => ?_)
  · refine no h3 (e.trans e3) (fun e => ?_)
    rw [(linB_iff _ _).2 (by rw [e])] at r4
    cases r4
  have r4 := (linB_iff _ _).1 r4
  refine loads_box (b1.keep e3 (by simp)) (x.n, ()) rfl ?_
  dsimp only [flat, unc, unc1, List.nil_append, List.cons_append]
  refine loads_box (b2.keep e3 (by simp)) (y.n, ()) rfl ?_
  refine ⟨x.n == y.n, rfl, ⟨fun r5 => ?_, fun e => by rw [e]; simp⟩, e.trans e3⟩
  have r5 : x.n = y.n := by simpa using r5
  exact itm_ext r1 r2 r3 r4 r5
theorem sameItems_hc {h : Hp} {p q : Option Addr} {l c m d : Nat} {xs ys : List Itm} (v : VwI h p l xs) (w : VwI h q m ys) : HC Tryz.prog 31 #[.slice p l c, .slice q m d] h (Eqw xs ys h) := by
  refine hcr_of (args := [.slice p l c, .slice q m d]) mixed Tryz.func31 (by kernel_rfl) (t_spandrelkeep_SameItems_eq p l c q m d) ?_
  refine sameT_of (body := fun n3 k => T.need (((0 : Int) ≤ n3) ∧ (n3 < (l : Int))) <|
   T.osome p <| fun (a4 : Addr) =>
   T.loads (a4.add ((Int.toNat n3) * 10)) [.int .i64, .string, .int .i64, .int .i64, .int .i64, .int .i32, .int .i64, .slice 104, .int .u32, .int .i64] <| fun (n5 : Int) (s6 : ByteArray) (n7 : Int) (n8 : Int) (n9 : Int) (n10 : Int) (n11 : Int) (p12 : Option Addr) (l13 : Nat) (l14 : Nat) (n15 : Int) (n16 : Int) =>
   T.need (((0 : Int) ≤ n3) ∧ (n3 < (m : Int))) <|
   T.osome q <| fun (a17 : Addr) =>
   T.loads (a17.add ((Int.toNat n3) * 10)) [.int .i64, .string, .int .i64, .int .i64, .int .i64, .int .i32, .int .i64, .slice 104, .int .u32, .int .i64] <| fun (n18 : Int) (s19 : ByteArray) (n20 : Int) (n21 : Int) (n22 : Int) (n23 : Int) (n24 : Int) (p25 : Option Addr) (l26 : Nat) (l27 : Nat) (n28 : Int) (n29 : Int) =>
   T.call Tryz.prog 66 [.agg #[.int .i64 n5, .string s6, .int .i64 n7, .int .i64 n8, .int .i64 n9, .int .i32 n10, .int .i64 n11, .slice p12 l13 l14, .int .u32 n15, .int .i64 n16], .agg #[.int .i64 n18, .string s19, .int .i64 n20, .int .i64 n21, .int .i64 n22, .int .i32 n23, .int .i64 n24, .slice p25 l26 l27, .int .u32 n28, .int .i64 n29]] false [(false, [.bool])] <| fun (b30 : Bool) =>
   cond (!b30)
    (T.ret (.bool false)) k) v.len w.len v.many ?_
  intro L h' i hi hj k e1 hk hn
  have vl := v.len
  have wl := w.len
  obtain ⟨a, p1, l1, c1, rfl, hc, va⟩ := (v.keep e1).cells i hi
  obtain ⟨b, q1, m1, d1, rfl, hd, wa⟩ := (w.keep e1).cells i hj
  refine need_of ⟨by omega, by omega⟩ ?_
  refine osome_mk rfl ?_
  refine loads_of (xs[i].kind, xs[i].name, xs[i].inst.op, xs[i].inst.a, xs[i].inst.b, xs[i].inst.n, xs[i].inst.form, (p1, l1, c1), (xs[i].e.num : Int), xs[i].n, ()) hc ?_
  dsimp only [flat, unc, unc1, List.nil_append, List.cons_append]
  refine need_of ⟨by omega, by omega⟩ ?_
  refine osome_mk rfl ?_
  refine loads_of (ys[i].kind, ys[i].name, ys[i].inst.op, ys[i].inst.a, ys[i].inst.b, ys[i].inst.n, ys[i].inst.form, (q1, m1, d1), (ys[i].e.num : Int), ys[i].n, ()) hd ?_
  dsimp only [flat, unc, unc1, List.nil_append, List.cons_append]
  refine call_of (sameItem_hc (c := c1) (d := d1) va.lin wa.lin) ?_
  rintro _ h2 ⟨b, rfl, hb, e2⟩
  refine ⟨(b, ()), rfl, ?_⟩
  dsimp only [flat, unc, unc1, List.nil_append, List.cons_append]
  refine cond_mk (fun u => ?_) (fun u => ?_)
  · have u : b = false := by simpa using u
    refine hn (fun e => ?_) h2 (e1.trans e2)
    rw [hb.2 e] at u
    cases u
  · have u : b = true := by simpa using u
    exact hk (hb.1 u) h2 (e1.trans e2)
theorem sameUnit_hc {h : Hp} {a b c d a' b' c' d' : Sli} {u v : Unt} (x : UntAt h a b c d u) (y : UntAt h a' b' c' d' v) : HC Tryz.prog 9 #[untV a b c d, untV a' b' c' d'] h (Eqw u v h) := by
  refine hcr_of (args := [untV a b c d, untV a' b' c' d']) mixed Tryz.func9 (by kernel_rfl) (t_spandrelkeep_SameUnit_eq a.p a.l a.c b.p b.l b.c c.p c.l c.c d.p d.l d.c a'.p a'.l a'.c b'.p b'.l b'.c c'.p c'.l c'.c d'.p d'.l d'.c) ?_
  unfold t_spandrelkeep_SameUnit
  refine newB ?_
  intro h1 b1 e1 z1
  refine newB ?_
  intro h2 b2 e2 z2
  have b1 : Box h2 h.size 28 [a.v, b.v, c.v, d.v] := b1.keep e2 (by simp)
  have b2 : Box h2 h1.size 28 [a'.v, b'.v, c'.v, d'.v] := b2
  have e := e1.trans e2
  have no : ∀ h', Ext h h' → u ≠ v → Eqw u v h (.bool false) h' := fun h' e hn => ⟨false, rfl, ⟨fun h => (by cases h), fun e => absurd e hn⟩, e⟩
  simp only [add_box]
  refine loads_box b1 ((a.p, a.l, a.c), ()) rfl ?_
  dsimp only [flat, unc, unc1, List.nil_append, List.cons_append]
  refine loads_box b2 ((a'.p, a'.l, a'.c), ()) rfl ?_
  dsimp only [flat, unc, unc1, List.nil_append, List.cons_append]
  refine call_of (sameItems_hc (x.text.keep e) (y.text.keep e)) ?_
  rintro _ h3 ⟨r1, rfl, i1, e3⟩
  refine ⟨(r1, ()), rfl, ?_⟩
  dsimp only [flat, unc, unc1, List.nil_append, List.cons_append]
  have e := e.trans e3
  have b1 := b1.keep e3 (by simp)
  have b2 := b2.keep e3 (by simp)
  refine cond_sw (fun q1 => ?_) (fun q1 => ?_)
  · refine no _ e (fun e => ?_)
    rw [i1.2 (by rw [e])] at q1
    cases q1
  have i1 := i1.1 q1
  refine loads_box b1 ((b.p, b.l, b.c), ()) rfl ?_
  dsimp only [flat, unc, unc1, List.nil_append, List.cons_append]
  refine loads_box b2 ((b'.p, b'.l, b'.c), ()) rfl ?_
  dsimp only [flat, unc, unc1, List.nil_append, List.cons_append]
  refine call_of (sameItems_hc (x.data.keep e) (y.data.keep e)) ?_
  rintro _ h4 ⟨r2, rfl, i2, e4⟩
  refine ⟨(r2, ()), rfl, ?_⟩
  dsimp only [flat, unc, unc1, List.nil_append, List.cons_append]
  have e := e.trans e4
  have b1 := b1.keep e4 (by simp)
  have b2 := b2.keep e4 (by simp)
  refine cond_sw (fun q2 => ?_) (fun q2 => ?_)
  · refine no _ e (fun e => ?_)
    rw [i2.2 (by rw [e])] at q2
    cases q2
  have i2 := i2.1 q2
  refine loads_box b1 ((c.p, c.l, c.c), ()) rfl ?_
  dsimp only [flat, unc, unc1, List.nil_append, List.cons_append]
  refine loads_box b2 ((c'.p, c'.l, c'.c), ()) rfl ?_
  dsimp only [flat, unc, unc1, List.nil_append, List.cons_append]
  refine call_of (sameEqus_hc (x.equs.keep e) (y.equs.keep e)) ?_
  rintro _ h5 ⟨r3, rfl, i3, e5⟩
  refine ⟨(r3, ()), rfl, ?_⟩
  dsimp only [flat, unc, unc1, List.nil_append, List.cons_append]
  have e := e.trans e5
  have b1 := b1.keep e5 (by simp)
  have b2 := b2.keep e5 (by simp)
  refine cond_sw (fun q3 => ?_) (fun q3 => ?_)
  · refine no _ e (fun e => ?_)
    rw [i3.2 (by rw [e])] at q3
    cases q3
  have i3 := i3.1 q3
  refine loads_box b1 ((d.p, d.l, d.c), ()) rfl ?_
  dsimp only [flat, unc, unc1, List.nil_append, List.cons_append]
  refine loads_box b2 ((d'.p, d'.l, d'.c), ()) rfl ?_
  dsimp only [flat, unc, unc1, List.nil_append, List.cons_append]
  refine call_of (sameStr_hc (x.globs.keep e) (y.globs.keep e)) ?_
  rintro _ h6 ⟨r4, rfl, i4, e6⟩
  refine ⟨(r4, ()), rfl, ?_⟩
  refine ⟨r4, rfl, ⟨fun q => ?_, fun e => i4.2 (by rw [e])⟩, e.trans e6⟩
  have i4 := i4.1 q
  exact unt_ext i1 i2 i3 i4
end Go.Sx.Ob

set_option linter.unusedVariables false
set_option linter.unusedSimpArgs false
set_option maxRecDepth 100000
namespace Go.Sx.Ob
open Go.Proofs
structure VwU (h : Hp) (p : Option Addr) (l : Nat) (us : List Unt) : Prop where
  len : l = us.length
  many : us.length ≤ 2 ^ 60
  cells : ∀ i, (hi : i < us.length) → ∃ a sa sb sc sd, p = some a ∧ cellsAt h (a.add (i * 4)) 0 [Sli.v sa, Sli.v sb, Sli.v sc, Sli.v sd] ∧ UntAt h sa sb sc sd us[i]
theorem VwU.keep {h h' : Hp} {p : Option Addr} {l : Nat} {us : List Unt} (v : VwU h p l us) (k : Ext h h') : VwU h' p l us :=
  ⟨v.len, v.many, fun i hi => by
    obtain ⟨a, sa, sb, sc, sd, ha, hc, hv⟩ := v.cells i hi
    exact ⟨a, sa, sb, sc, sd, ha, cellsAt_keep k (by simp) _ _ hc, hv.keep k⟩⟩
end Go.Sx.Ob

set_option linter.unusedVariables false
set_option linter.unusedSimpArgs false
set_option maxRecDepth 100000
namespace Go.Sx
open Go.Proofs
theorem digit_hc (c : UInt8) (h : Hp) : HCp Tryz.prog 78 [.int .u8 (cN c)] h (.bool (isDig c)) := by
  refine hcp_of mixed Tryz.func78 (by kernel_rfl) (t_spandrelref2_Digit_eq _) ?_
  unfold t_spandrelref2_Digit isDig cN
  refine cond_mk (fun h1 => ?_) (fun h1 => ?_)
  · have h1 := of_decide_eq_true h1
    refine ⟨?_, rfl⟩
    congr 1
    rw [show decide (48 ≤ c.toNat) = true from decide_eq_true (by omega), Bool.true_and]
    exact decide_eq_decide.2 (by omega)
  · have h1 := of_decide_eq_false h1
    refine ⟨?_, rfl⟩
    congr 1
    rw [show decide (48 ≤ c.toNat) = false from decide_eq_false (by omega), Bool.false_and]

theorem letter_hc (c : UInt8) (h : Hp) : HCp Tryz.prog 77 [.int .u8 (cN c)] h (.bool (isLet c)) := by
  refine hcp_of mixed Tryz.func77 (by kernel_rfl) (t_spandrelref2_Letter_eq _) ?_
  unfold t_spandrelref2_Letter
  have hl := isLet_iff c
  repeat' (refine cond_mk (fun h1 => ?_) (fun h1 => ?_) <;> first | replace h1 := of_decide_eq_true h1 | replace h1 := of_decide_eq_false h1)
  all_goals exact ⟨congrArg Value.bool (Bool.eq_iff_iff.2 (by simp only [hl, true_iff, beq_iff_eq]; omega)), rfl⟩
theorem register2_hc (s : ByteArray) (h : Hp) : HCp Tryz.prog 79 [.string s] h (.tuple #[.int .i64 (regL s.data.toList).1, .bool (regL s.data.toList).2.1, .bool (regL s.data.toList).2.2]) := by
  refine hcp_of mixed Tryz.func79 (by kernel_rfl) (t_spandrelref2_Register_eq s) ?_
  have hsz : s.data.toList.length = s.size := by simp
  unfold t_spandrelref2_Register
  refine cond_mk (fun h1 => ?_) (fun h1 => ?_)
  · have h1 : (s.size : Int) ≠ 2 := by simpa using h1
    rw [regL_len (by omega)]
    exact ⟨rfl, rfl⟩
  · have h1 : (s.size : Int) = 2 := by simpa using h1
    obtain ⟨a, b, hab⟩ := two_bytes h1
    have e0 : sbyte s 0 = cN a := by rw [sbyte_cN, hab]; rfl
    have e1 : sbyte s 1 = cN b := by rw [sbyte_cN, hab]; rfl
    have hb := b.toNat_lt
    have w1 : IntKind.wrap .i64 (IntKind.wrap .i64 (sbyte s 1) - 48) = cN b - 48 := by
      rw [e1, wrap_i64 (x := cN b) (by unfold cN; omega) (by unfold cN; omega), wrap_i64 (by unfold cN; omega) (by unfold cN; omega)]
    rw [w1, e0, hab]
    unfold regL
    repeat' (first | refine need_of ⟨by omega, by omega⟩ ?_ | (refine cond_mk (fun h1 => ?_) (fun h1 => ?_) <;> first | replace h1 := of_decide_eq_true h1 | replace h1 := of_decide_eq_false h1 | replace h1 := eq_of_beq h1 | replace h1 := ne_of_beq_false h1))
    all_goals
      refine ⟨?_, rfl⟩
      simp only
      first
        | (exfalso; omega)
        | rw [if_pos (by omega)]
        | rw [if_neg (by omega), if_pos (by omega)]
        | rw [if_neg (by omega), if_neg (by omega)]
theorem all_stepR (p : UInt8 → Bool) (l : List UInt8) (k : Nat) (hk : k < l.length) : (l.take (k + 1)).all p = ((l.take k).all p && p (l.getD k 0)) := by
  rw [List.take_succ_eq_append_getElem hk, List.all_append]
  simp [List.getD, List.getElem?_eq_getElem hk]
theorem legal2_hc (s : ByteArray) (h : Hp) (hs : s.size ≤ 9223372036854775807) : HCp Tryz.prog 43 [.string s] h (.bool (legalL s.data.toList)) := by
  refine hcp_of mixed Tryz.func43 (by kernel_rfl) (t_spandrelref2_Legal_eq s) ?_
  have hsz : s.data.toList.length = s.size := by simp
  unfold t_spandrelref2_Legal
  unfold legalL
  rw [hsz]
  refine cond_mk (fun h1 => ?_) (fun h1 => ?_)
  · have h1 := of_decide_eq_true h1
    rw [show decide (0 < s.size) = false from decide_eq_false (by omega)]
    exact ⟨by simp, rfl⟩
  have h1 := of_decide_eq_false h1
  refine cond_mk (fun h2 => ?_) (fun h2 => ?_)
  · have h2 := of_decide_eq_true h2
    rw [show decide (s.size ≤ 32) = false from decide_eq_false (by omega)]
    exact ⟨by simp, rfl⟩
  have h2 := of_decide_eq_false h2
  rw [show decide (0 < s.size) = true from decide_eq_true (by omega), show decide (s.size ≤ 32) = true from decide_eq_true (by omega)]
  refine need_of ⟨by omega, by omega⟩ ?_
  refine call_bool (letter_hc (s.data.toList.getD 0 0) h) ?_
  refine cond_mk (fun h3 => ?_) (fun h3 => ?_)
  · have h3 : isLet (s.data.toList.getD 0 0) = false := by simpa using h3
    rw [h3]
    exact ⟨by simp, rfl⟩
  have h3 : isLet (s.data.toList.getD 0 0) = true := by simpa using h3
  rw [h3]
  refine loop_of (cs := [(false, [.bool]), (false, [.int .i64])]) (fun x n h' => h' = h ∧ ∃ k : Nat, x.2.1 = (k : Int) ∧ k ≤ s.size ∧ n = s.size - k ∧ (s.data.toList.take k).all (fun c => isLet c || isDig c) = true)
    (false, (0 : Int), ()) s.size rfl ⟨rfl, 0, rfl, by omega, by omega, by simp⟩ ?_
  rintro ⟨b, n, ⟨⟩⟩ m h' ⟨rfl, k, hk, hle, rfl, hall⟩
  simp only at hk
  subst hk
  refine cond_mk (fun hb => ?_) (fun hb => ?_)
  · have hlt : (k : Int) < s.size := of_decide_eq_true hb
    have hst := all_stepR (fun c => isLet c || isDig c) s.data.toList k (by omega)
    rw [hall, Bool.true_and] at hst
    have hfalse : ∀ k' : Nat, (isLet (s.data.toList.getD k 0) || isDig (s.data.toList.getD k 0)) = false → s.data.toList.all (fun c => isLet c || isDig c) = false := by
      intro k' hf
      rw [hf] at hst
      cases hx : s.data.toList.all (fun c => isLet c || isDig c) with
      | false => rfl
      | true =>
        have : (s.data.toList.take (k + 1)).all (fun c => isLet c || isDig c) = true := List.all_eq_true.2 fun c hc => List.all_eq_true.1 hx c (List.mem_of_mem_take hc)
        rw [this] at hst; cases hst
    have hnext : (isLet (s.data.toList.getD k 0) || isDig (s.data.toList.getD k 0)) = true → T.again 0 [.bool b, .int .i64 (IntKind.wrap .i64 ((k : Int) + 1))] ([] ++ [Jl (cs := [(false, [.bool]), (false, [.int .i64])]) (fun x n h'' => h'' = h' ∧ ∃ k : Nat, x.2.1 = (k : Int) ∧ k ≤ s.size ∧ n = s.size - k ∧ (s.data.toList.take k).all (fun c => isLet c || isDig c) = true) (s.size - k)]) (fun v' h'' => v' = .bool (true && true && true && s.data.toList.all (fun c => isLet c || isDig c) && !(regL s.data.toList).2.2) ∧ h'' = h') h' := by
      intro ht
      rw [wrap_i64 (by omega) (by omega)]
      exact again_mk (cs := [(false, [.bool]), (false, [.int .i64])]) (b, (k : Int) + 1, ()) (s.size - (k + 1)) rfl (by omega) rfl ⟨rfl, k + 1, (show ((k : Int) + 1) = ((k + 1 : Nat) : Int) from by omega), by omega, rfl, by rw [hst, ht]⟩
    refine need_of ⟨(by show (0:Int) ≤ (k:Int); omega), hlt⟩ ?_
    refine call_bool (letter_hc (s.data.toList.getD k 0) h') ?_
    refine cond_mk (fun h4 => ?_) (fun h4 => ?_)
    · have h4 : isLet (s.data.toList.getD k 0) = false := by simpa using h4
      refine need_of ⟨(by show (0:Int) ≤ (k:Int); omega), hlt⟩ ?_
      refine call_bool (digit_hc (s.data.toList.getD k 0) h') ?_
      refine cond_mk (fun h5 => ?_) (fun h5 => ?_)
      · have h5 : isDig (s.data.toList.getD k 0) = false := by simpa using h5
        rw [hfalse 0 (by rw [h4, h5]; rfl)]
        exact ⟨by simp, rfl⟩
      · have h5 : isDig (s.data.toList.getD k 0) = true := by simpa using h5
        exact hnext (by rw [h5]; simp)
    · have h4 : isLet (s.data.toList.getD k 0) = true := by simpa using h4
      exact hnext (by rw [h4]; simp)
  · have hge : ¬ (k : Int) < s.size := of_decide_eq_false hb
    have hk : k = s.data.toList.length := by omega
    rw [hk, List.take_length] at hall
    rw [hall]
    refine call_ibb (register2_hc s h') ?_
    exact ⟨by simp, rfl⟩
theorem right50_hc {h : Hp} {p : Option Addr} {l c : Nat} {x : Lin} (v : VwT h p l x.terms) (hl : x.terms.length ≤ 9223372036854775807) (hs : ∀ t, t ∈ x.terms → t.1.size ≤ maxLen) :
    HC Tryz.prog 44 #[linV p l c x] h fun w h' => w = .bool (rtR none x.terms) ∧ Ext h h' := by
  refine hcr_of (args := [.agg #[.slice p l c, .int .u32 x.num]]) mixed Tryz.func44 (by kernel_rfl) (t_spandrelref4_Right_eq p l c x.num) ?_
  unfold t_spandrelref4_Right
  have hll := v.len
  refine newB ?_
  intro h1 b1 e1 z1
  have v := v.keep e1 (by simp)
  refine loop_of (cs := [(false, [.bool]), (false, [.int .i64])]) (fun y w h' => ∃ (i : Nat), y.2.1 = (i : Int) ∧ i ≤ x.terms.length ∧ w = x.terms.length - i ∧ h1 = h' ∧ rtR none x.terms = rtR (pvN x.terms i) (x.terms.drop i)) (false, (0 : Int), ()) x.terms.length rfl
    ⟨0, rfl, by omega, by omega, rfl, rfl⟩ ?_
  rintro ⟨b8, n8, ⟨⟩⟩ w h2 ⟨i, hi, hile, rfl, rfl, hq⟩
  simp only at hi
  subst hi
  dsimp only [flat, unc, unc1, List.nil_append, List.cons_append]
  refine loads_box b1 ((p, l, c), ()) rfl ?_
  dsimp only [flat, unc, unc1, List.nil_append, List.cons_append]
  refine cond_mk (fun g1 => ?_) (fun g1 => ?_)
  · have g1 := of_decide_eq_true g1
    have hilt : i < x.terms.length := by omega
    obtain ⟨a, rfl, hc⟩ := v.cells i hilt
    have hdr : x.terms.drop i = x.terms[i] :: x.terms.drop (i + 1) := List.drop_eq_getElem_cons hilt
    have hpv : pvN x.terms (i + 1) = some x.terms[i].1 := by
      unfold pvN
      rw [if_neg (by omega), Nat.add_sub_cancel, List.getElem?_eq_getElem hilt]
      rfl
    have hsz := hs x.terms[i] (List.getElem_mem hilt)
    rw [hdr] at hq
    generalize x.terms[i] = t at hc hq hpv hsz
    refine loads_box b1 ((some a, l, c), ()) rfl ?_
    dsimp only [flat, unc, unc1, List.nil_append, List.cons_append]
    refine need_of ⟨by omega, by omega⟩ (osome_mk rfl ?_)
    rw [show Int.toNat (i : Int) = i by omega]
    refine loads_of (t.1, ()) (encT_cells hc).1 ?_
    dsimp only [flat, unc, unc1, List.nil_append, List.cons_append]
    refine call_bool (legal2_hc t.1 h1 (by have : maxLen = 9223372036854775807 := rfl; omega)) ?_
    refine ⟨⟨b1.cells _ rfl, trivial⟩, ?_⟩
    refine cond_mk (fun g3 => ?_) (fun g3 => ?_)
    · have g3 : legalL t.1.data.toList = false := by simpa using g3
      refine ⟨?_, e1⟩
      rw [hq]
      unfold rtR
      rw [g3]
      simp
    · have g3 : legalL t.1.data.toList = true := by simpa using g3
      refine loads_box b1 ((some a, l, c), ()) rfl ?_
      dsimp only [flat, unc, unc1, List.nil_append, List.cons_append]
      refine need_of ⟨by omega, by omega⟩ (osome_mk rfl ?_)
      refine loads_of ((t.2 : Int), ()) (encT_cells hc).2 ?_
      dsimp only [flat, unc, unc1, List.nil_append, List.cons_append]
      refine cond_mk (fun g2 => ?_) (fun g2 => ?_)
      · have g2 : t.2 = 0 := by have : (t.2 : Int) = 0 := by simpa using g2
                                omega
        refine ⟨?_, e1⟩
        rw [hq]
        unfold rtR
        rw [decide_eq_false (by omega)]
        simp
      · have g2 : t.2 ≠ 0 := by have : ¬ (t.2 : Int) = 0 := by simpa using g2
                                omega
        have hw : IntKind.wrap .i64 ((i : Int) + 1) = ((i + 1 : Nat) : Int) := by rw [wrap_i64 (by omega) (by omega)]; omega
        have hgo : (match pvN x.terms i with
            | none => true
            | some s => decide (ltN s t.1)) = true → rtR none x.terms = rtR (pvN x.terms (i + 1)) (x.terms.drop (i + 1)) := by
          intro hm
          rw [hq, hpv]
          conv => lhs; unfold rtR
          rw [g3, decide_eq_true g2]
          exact (congrArg (fun z => (true && true && z) && rtR (some t.1) (x.terms.drop (i + 1))) hm).trans rfl
        refine cond_mk (fun g4 => ?_) (fun g4 => ?_)
        · have g4 := of_decide_eq_true g4
          have hw1 : IntKind.wrap .i64 ((i : Int) - 1) = ((i - 1 : Nat) : Int) := by rw [wrap_i64 (by omega) (by omega)]; omega
          have hi1 : i - 1 < x.terms.length := by omega
          obtain ⟨a', ha', hc'⟩ := v.cells (i - 1) hi1
          cases ha'
          have hpi : pvN x.terms i = some x.terms[i - 1].1 := by
            unfold pvN
            rw [if_neg (by omega), List.getElem?_eq_getElem hi1]
            rfl
          rw [hpi] at hgo hq
          generalize x.terms[i - 1] = u at hc' hpi hgo hq
          refine loads_box b1 ((some a, l, c), ()) rfl ?_
          dsimp only [flat, unc, unc1, List.nil_append, List.cons_append]
          refine need_of ⟨by omega, by omega⟩ (osome_mk rfl ?_)
          refine loads_of (t.1, ()) (encT_cells hc).1 ?_
          dsimp only [flat, unc, unc1, List.nil_append, List.cons_append]
          refine loads_box b1 ((some a, l, c), ()) rfl ?_
          dsimp only [flat, unc, unc1, List.nil_append, List.cons_append]
          rw [hw1]
          refine need_of ⟨by omega, by omega⟩ (osome_mk rfl ?_)
          rw [show Int.toNat ((i - 1 : Nat) : Int) = i - 1 by omega]
          refine loads_of (u.1, ()) (encT_cells hc').1 ?_
          dsimp only [flat, unc, unc1, List.nil_append, List.cons_append]
          rw [leB]
          refine cond_mk (fun g5 => ?_) (fun g5 => ?_)
          · have g5 : ¬ ltN u.1 t.1 := by simpa using g5
            refine ⟨?_, e1⟩
            rw [hq]
            unfold rtR
            dsimp only
            rw [decide_eq_false g5]
            simp
          · have g5 : ltN u.1 t.1 := by simpa using g5
            exact again_mk (cs := [(false, [.bool]), (false, [.int .i64])]) (b8, ((i + 1 : Nat) : Int), ()) (x.terms.length - (i + 1)) rfl (by omega) (congrArg (fun z => [Value.bool b8, Value.int .i64 z]) hw) ⟨i + 1, rfl, by omega, rfl, rfl, hgo (decide_eq_true g5)⟩
        · have g4 := of_decide_eq_false g4
          have hi0 : i = 0 := by omega
          subst hi0
          exact again_mk (cs := [(false, [.bool]), (false, [.int .i64])]) (b8, ((0 + 1 : Nat) : Int), ()) (x.terms.length - (0 + 1)) rfl (by omega) (congrArg (fun z => [Value.bool b8, Value.int .i64 z]) hw) ⟨0 + 1, rfl, by omega, rfl, rfl, hgo rfl⟩
  · have g1 := of_decide_eq_false g1
    have hi : i = x.terms.length := by omega
    subst hi
    refine ⟨?_, e1⟩
    rw [hq, List.drop_length]
    rfl
end Go.Sx
