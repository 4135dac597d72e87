/- Sums of names in plain Lean; Times, Add, the parser's small parts over heaps. Condition: 2^40 terms at most. -/
import Derived.Test.YtpbjlnlekobodaaDoorShelfS
import Derived.Test.YtpbjlnlekobodaaDoorSxG
import Derived.Test.YtpbjlnlekobodaaDoorLexAC
import Derived.Test.YtpbjlnlekobodaaDoorExprT
import Derived.Test.YtpbjlnlekobodaaDoorLineA
import Derived.Test.YtpbjlnlekobodaaDoorExprU
set_option linter.unusedVariables false
set_option maxRecDepth 100000
namespace Go.Sx
open Go.Proofs Go.MapKept Go.WideAt Go.WideMaps Go.Maps Go.RowKit Go.WideElems Go.WideElems
/-- How an element reads where nothing is asked of it. -/
def anyR : Value → Option (DataW Unit × List MemPlace) := fun _ => some (.nil, [])
theorem und9 : Tryd.prog.underlying 9 = some .string := by kernel_rfl
theorem und78 : Tryd.prog.underlying 78 = some (.map 9 33) := by kernel_rfl
/-- The keys of a map, sorted. -/
def keysOf (D : List (ByteArray × Value)) : List (List UInt8) := (D.map fun p => p.1.data.toList).mergeSort fun x y => decide (x ≤ y)
theorem rd_str {x : MapEntry} {s : ByteArray} (hk : x.key = .string s) (hs : s.size ≤ maxLen) : WideElems.rd Tryd.prog 9 anyR x = some (.string s.data.toList, .nil) := by
  unfold WideElems.rd
  rw [hk, keyOf_string_mk und9 hs]
  rfl
theorem MapB.owns {W : World} {g : Nat} {D : List (ByteArray × Value)} (m : MapB W.heap g D) (hl : D.length ≤ maxLen) :
    ∃ D0 : DataW Unit, W.ownsMap Tryd.prog 9 anyR g D.length D0 ∧ (strKeys D0).Perm (D.map fun p => p.1.data.toList) ∧ Maps.size D0 = D.length := by
  obtain ⟨es, clock, hg, he, hs, hd⟩ := m
  have hlen : es.size = D.length := by
    have := congrArg List.length he
    simpa using this
  have hrd : es.toList.map (WideElems.rg Tryd.prog 9 anyR) = D.map fun p => (Lit.string p.1.data.toList, DataW.nil) := by
    apply List.ext_getElem?
    intro i
    have h1 : (es.toList.map (fun e => (e.key, e.val)))[i]? = (D.map (fun p => (Value.string p.1, p.2)))[i]? := by rw [he]
    simp only [List.getElem?_map] at h1 ⊢
    rcases Nat.lt_or_ge i D.length with hi | hi
    · rw [List.getElem?_eq_getElem hi, List.getElem?_eq_getElem (show i < es.toList.length by simp; omega)] at h1 ⊢
      simp only [Option.map_some, Option.some.injEq, Prod.mk.injEq] at h1 ⊢
      exact WideElems.rg_of (rd_str h1.1 (hd _ (List.getElem_mem hi)))
    · rw [List.getElem?_eq_none hi, List.getElem?_eq_none (show es.toList.length ≤ i by simp; omega)]
      rfl
  refine ⟨_, ⟨es, clock, hg, ⟨by omega, hs, ?_⟩, by omega, rfl⟩, ?_, ?_⟩
  · intro x hx
    obtain ⟨i, hi, rfl⟩ := List.getElem_of_mem hx
    have hi' : i < D.length := by simp at hi; omega
    have h1 : (es.toList.map (fun e => (e.key, e.val)))[i]? = (D.map (fun p => (Value.string p.1, p.2)))[i]? := by rw [he]
    simp only [List.getElem?_map, List.getElem?_eq_getElem hi', List.getElem?_eq_getElem hi, Option.map_some, Option.some.injEq, Prod.mk.injEq] at h1
    exact ⟨_, rd_str h1.1 (hd _ (List.getElem_mem hi'))⟩
  · show List.Perm (((es.toList.map (WideElems.rg Tryd.prog 9 anyR)).foldr DataW.insert []).map fun p => strOf p.1) _
    rw [hrd]
    refine ((WideShapes.sorted_perm _).map _).trans ?_
    rw [List.map_map]
    exact List.Perm.refl _
  · show ((es.toList.map (WideElems.rg Tryd.prog 9 anyR)).foldr DataW.insert []).length = D.length
    rw [hrd, length_sorted, List.length_map]
theorem World.alloc_of {W : World} {h : Hp} {o : Obj} (hW : W.heap = h.push o) : ({ W with heap := h } : World).alloc o = W := by
  cases W
  simp only at hW
  subst hW
  rfl
theorem SameO.alloc (w : World) (o : Obj) : SameO w (w.alloc o) := ⟨rfl, rfl, rfl⟩
/-- maps.Keys. -/
theorem keys_hc (r : Option Nat) (h : Hp) : HC Tryd.prog 101 #[.map r] h fun v h' => v = .func (.func 114) #[] #[.pointer (some ⟨h.size, 0, none⟩)] ∧ h' = h.push (.cells #[.map r] 78) := by
  intro W hW
  subst hW
  exact (callsIn_wide.1 (Tryd.maps_Keys_101 r W)).mono fun e w' ⟨he, hw⟩ => ⟨_, he, by rw [hw]; exact SameO.alloc _ _, rfl, by rw [hw]; rfl⟩
/-- One's own row, as a slice of chunks of one cell. -/
theorem SL.of_row {W : World} {b : Nat} {e : TypeId} {v : Value} {xs : List Value} (r : W.ownsRow b e 1 v xs.length xs) : ∃ p l c, v = .slice p l c ∧ SL W.heap b e 1 p l c (xs.map fun x => [x]) := by
  have hfl : ∀ ys : List Value, (ys.map fun x => [x]).flatten = ys := by
    intro ys
    induction ys with
    | nil => rfl
    | cons y ys ih => simp [ih]
  obtain ⟨h1, h2⟩ := r
  rcases h2 with ⟨hv, hn⟩ | ⟨g, cap, cur, hv, hb, hg, hle, hc, hs, ht⟩
  · have : xs = [] := List.eq_nil_of_length_eq_zero hn
    subst this
    exact ⟨none, 0, 0, hv, SL.nil _ _ _ _⟩
  · refine ⟨some ⟨g, 0, none⟩, xs.length, cap, hv, by simp, by simp, g, [], cur.toList.drop xs.length, rfl, hb, ⟨hle, by unfold maxLen at hc; omega⟩, ?_, ?_⟩
    · rw [hfl, List.nil_append]
      have : xs = cur.toList.take xs.length := by rw [← ht]; simp
      unfold Box
      rw [hg]
      congr 2
      conv => lhs; rw [← Array.toArray_toList (xs := cur), ← List.take_append_drop xs.length cur.toList]
      rw [← this]
    · rw [List.length_drop, Array.length_toList, hs]; omega
/-- slices.Sorted behind maps.Keys. -/
theorem sorted_hc {h : Hp} {g : Nat} {D : List (ByteArray × Value)} (m : MapB h g D) (hl : D.length ≤ 2 ^ 40) :
    HC Tryd.prog 100 #[.func (.func 114) #[] #[.pointer (some ⟨h.size, 0, none⟩)]] (h.push (.cells #[.map (some g)] 78)) fun v h' => ∃ p l c, v = .slice p l c ∧ SL h' (h.size + 1) 9 1 p l c ((keysOf D).map fun k => [encStr k]) ∧
      Ext (h.push (.cells #[.map (some g)] 78)) h' := by
  intro W hW
  obtain ⟨D0, hown, hperm, hsize⟩ := MapB.owns (W := { W with heap := h }) m (by unfold maxLen; omega)
  have hc := callsIn_wide.1 (Tryd.slices_Sorted_keys_100_101 g D.length D0 anyR { W with heap := h } hown (by rw [hsize]; unfold maxLen; omega) (by rw [hsize]; omega))
  rw [World.alloc_of hW] at hc
  refine hc.mono fun e w' hr => ?_
  obtain ⟨v, ss, he, hp, hrow, _, hb⟩ := hr
  have hss : ss.mergeSort (fun x y => decide (x ≤ y)) = keysOf D := mergeSort_of_perm (hp.trans hperm)
  have hlen : ss.length = ((ss.mergeSort (fun x y => decide (x ≤ y))).map encStr).length := by rw [List.length_map, List.length_mergeSort]
  rw [hlen, hss] at hrow
  obtain ⟨p, l, c, hv, hsl⟩ := SL.of_row hrow
  refine ⟨v, he, ⟨hb.os, hb.tape, hb.output⟩, p, l, c, hv, ?_, ?_⟩
  · rw [List.map_map] at hsl
    have : W.heap.size = h.size + 1 := by rw [hW]; simp
    rw [this] at hsl
    exact hsl
  · rw [← hW]
    exact ⟨hb.size, fun i hi _ => hb.block i hi⟩
end Go.Sx

set_option linter.unusedVariables false
set_option maxRecDepth 100000
namespace Go.Sx
open Go.Proofs
/-- Terms: names so many times. -/
abbrev Tms := List (ByteArray × Nat)
def encT (p : ByteArray × Nat) : List Value := [.string p.1, .int .u32 p.2]
def vm (D : Tms) : List (ByteArray × Value) := D.map fun p => (p.1, Value.int .u32 p.2)
def getN (D : Tms) (s : ByteArray) : Nat := ((D.find? fun p => decide (s = p.1)).map (·.2)).getD 0
def putN (D : Tms) (s : ByteArray) (v : Nat) : Tms := if (D.find? fun p => decide (s = p.1)).isSome then D.map fun p => if s = p.1 then (p.1, v) else p else D ++ [(s, v)]
/-- A term laid into a map. -/
def addT (D : Tms) (p : ByteArray × Nat) : Tms := putN D p.1 ((getN D p.1 + p.2) % 4294967296)
/-- The terms of a map: its names sorted, those with no coefficient struck. -/
def madeL (D : Tms) : Tms := (keysOf (vm D)).filterMap fun k => if getN D ⟨k.toArray⟩ = 0 then none else some (⟨k.toArray⟩, getN D ⟨k.toArray⟩)
theorem find_vm (D : Tms) (s : ByteArray) : (vm D).find? (fun p => decide (s = p.1)) = (D.find? fun p => decide (s = p.1)).map fun p => (p.1, Value.int .u32 p.2) := by
  unfold vm
  induction D with
  | nil => rfl
  | cons p D ih =>
    by_cases h : s = p.1
    · simp [h]
    · simp only [List.map_cons, List.find?_cons, decide_eq_false h]
      exact ih
theorem look_vm (D : Tms) (s : ByteArray) : look (vm D) s = (D.find? fun p => decide (s = p.1)).map fun p => Value.int .u32 p.2 := by
  unfold look
  rw [find_vm, Option.map_map]
  rfl
theorem look_getD (D : Tms) (s : ByteArray) : (look (vm D) s).getD (.int .u32 0) = .int .u32 (getN D s) := by
  rw [look_vm]
  unfold getN
  cases D.find? fun p => decide (s = p.1) <;> rfl
theorem upd_vm (D : Tms) (s : ByteArray) (v : Nat) : upd (vm D) s (.int .u32 v) = vm (putN D s v) := by
  unfold upd putN
  rw [look_vm]
  cases h : (D.find? fun p => decide (s = p.1)) with
  | none => simp [vm]
  | some q =>
    simp only [Option.map_some, Option.isSome_some, if_true, vm, List.map_map]
    refine List.map_congr_left fun p hp => ?_
    simp only [Function.comp]
    split <;> simp_all
theorem putN_length (D : Tms) (s : ByteArray) (v : Nat) : (putN D s v).length ≤ D.length + 1 := by
  unfold putN
  split <;> simp
theorem info33 : (Tryd.prog.info? 33).bind (·.zero) = some (.int .u32 0) := by kernel_rfl
theorem und67 : Tryd.prog.underlying 67 = some (.slice 80) := by kernel_rfl
theorem termZ : (Tryd.prog.info? 80).map (fun i => (i.zero, i.size, i.bytes)) = some (some (.agg #[.string ⟨#[]⟩, .int .u32 0]), 2, 24) := by kernel_rfl
theorem look_of {L : Lp} {K : Value → Hp → Prop} {h : Hp} {g : Nat} {D : Tms} (m : MapB h g (vm D)) (s : ByteArray) {k : Int → T} (hk : k (getN D s) L K h) : T.sem Tryd.prog (Instr.lookup 78 (.map (some g)) (.string s) false) false [(false, [.int .u32])] k L K h := by
  refine lookup_of und78 und9 info33 m s false _ ?_
  refine ⟨((getN D s : Int), ()), ?_, hk⟩
  simp only [Bool.false_eq_true, if_false]
  rw [look_getD]
  rfl
theorem put_of {L : Lp} {K : Value → Hp → Prop} {h : Hp} {g : Nat} {D : Tms} (m : MapB h g (vm D)) {s : ByteArray} (hs : s.size ≤ maxLen) {v : Int} {n : Nat} (hv : v = (n : Int)) {k : T} (hk : ∀ h', MapB h' g (vm (putN D s n)) → Ch [g] h h' → h'.size = h.size → k L K h') :
    T.semU Tryd.prog (Instr.mapUpdate 78 (.map (some g)) (.string s) (.int .u32 v)) k L K h := by
  subst hv
  refine mapUpdate_of und78 und9 m hs _ _ ?_
  intro h' m' c' z'
  rw [upd_vm] at m'
  exact hk h' m' c' z'
theorem made_hc {h : Hp} {g : Nat} {D : Tms} (m : MapB h g (vm D)) (hl : D.length ≤ 2 ^ 40) (n : Int) :
    HC Tryd.prog 85 #[.map (some g), .int .u32 n] h fun v h' => Ext h h' ∧ ∃ p l c, v = .agg #[.slice p l c, .int .u32 n] ∧ SL h' h.size 80 2 p l c ((madeL D).map encT) := by
  refine hcr_of (args := [.map (some g), .int .u32 n]) mixed Tryd.func85 (by kernel_rfl) (t_expr_made_eq (some g) n) ?_
  unfold t_expr_made
  refine newB ?_
  intro h1 b1 e1 z1
  refine newB ?_
  intro h2 b2 e2 z2
  refine stores_of b2 rfl (by simp) ?_
  intro h3 b3 k3 z3
  have b3 : Box h3 h1.size 69 [.slice none 0 0, .int .u32 n] := b3
  have e3 : Ext h h3 := Ch.trans (e1.trans e2) k3 (fun i hi hl => by simp at hi; omega)
  have m3 := m.keep e3 (by simp)
  have c3 : Box h3 h.size 69 [.slice none 0 0, .int .u32 0] := (b1.keep e2 (by simp)).keep k3 (by simp; omega)
  refine call_of (keys_hc (some g) h3) ?_
  rintro _ h4 ⟨rfl, rfl⟩
  refine ⟨(.func (.func 114) #[] #[.pointer (some ⟨h3.size, 0, none⟩)], ()), rfl, ?_⟩
  dsimp only [flat, unc, unc1, List.nil_append, List.cons_append]
  have e4 : Ext h3 (h3.push (.cells #[.map (some g)] 78)) := Ext.push _ _
  have hkl : (vm D).length ≤ 2 ^ 40 := by unfold vm; rw [List.length_map]; exact hl
  refine call_of (sorted_hc m3 hkl) ?_
  rintro _ h5 ⟨pk, lk, ck, rfl, sk, e5⟩
  refine ⟨((pk, lk, ck), ()), rfl, ?_⟩
  dsimp only [flat, unc, unc1, List.nil_append, List.cons_append]
  have e35 := e4.trans e5
  have hkeys : (keysOf (vm D)).length ≤ 2 ^ 40 := by
    unfold keysOf
    rw [List.length_mergeSort, List.length_map]
    exact hkl
  have hlk : lk = (keysOf (vm D)).length := by rw [sk.1, List.length_map]
  unfold madeL
  generalize keysOf (vm D) = ks at sk hkeys hlk ⊢
  have b5 := b3.keep e35 (by simp)
  have c5 := c3.keep e35 (by simp)
  have m5 := m3.keep e35 (by simp)
  have e05 := e3.trans e35
  have hz3 := e35.size
  have hb3 := b3.lt
  have hg := m.lt
  refine loop_of (cs := [(false, [.int .i64])]) (fun x w h' => ∃ (i : Nat) (p : Option Addr) (l c : Nat), x.1 = (i : Int) ∧ i ≤ ks.length ∧ w = ks.length - i ∧ Ch [h1.size] h5 h' ∧ Box h' h1.size 69 [.slice p l c, .int .u32 n] ∧
    SL h' h5.size 80 2 p l c (((ks.take i).filterMap fun k => if getN D ⟨k.toArray⟩ = 0 then none else some ((⟨k.toArray⟩ : ByteArray), getN D ⟨k.toArray⟩)).map encT) ∧ l ≤ i) ((0 : Int), ()) ks.length rfl
    ⟨0, none, 0, 0, rfl, by omega, by omega, Ch.refl _ _, b5, SL.nil _ _ _ _, by omega⟩ ?_
  rintro ⟨n8, ⟨⟩⟩ w h6 ⟨i, p, l, c, hi, hile, rfl, k6, b6, s6, hli⟩
  simp only at hi
  subst hi
  dsimp only [flat, unc, unc1, List.nil_append, List.cons_append]
  have m6 := m5.keep k6 (by simp; omega)
  have hz6 := k6.size
  have e06 : Ext h h6 := Ch.trans e05 k6 (fun j hj hl => by simp at hj; omega)
  refine cond_mk (fun g1 => ?_) (fun g1 => ?_)
  · have g1 := of_decide_eq_true g1
    have hilt : i < ks.length := by omega
    have sk6 := sk.keep' k6 (fun j hj => by have := (sk.blk hj).1; simp; omega)
    obtain ⟨a, rfl, hc⟩ := sk6.cells (i := i) (by simpa using hilt)
    rw [List.getElem_map] at hc
    have htk : ks.take (i + 1) = ks.take i ++ [ks[i]] := List.take_succ_eq_append_getElem hilt
    generalize ks[i] = k at hc htk
    refine need_of ⟨by omega, by omega⟩ (osome_mk rfl ?_)
    rw [show Int.toNat (i : Int) = i by omega]
    refine loads_of ((⟨k.toArray⟩ : ByteArray), ()) hc ?_
    dsimp only [flat, unc, unc1, List.nil_append, List.cons_append]
    have hw : IntKind.wrap .i64 ((i : Int) + 1) = ((i + 1 : Nat) : Int) := by rw [wrap_i64 (by omega) (by omega)]; omega
    refine look_of m6 _ (cond_mk (fun g2 => ?_) (fun g2 => ?_))
    · have g2 : ((getN D ⟨k.toArray⟩ : Nat) : Int) ≠ 0 := by simpa using g2
      refine loads_box b6 ((p, l, c), ()) rfl ?_
      dsimp only [flat, unc, unc1, List.nil_append, List.cons_append]
      refine look_of m6 _ ?_
      refine push_of (vs := encT (⟨k.toArray⟩, getN D ⟨k.toArray⟩)) und67 termZ rfl (by omega) (by omega) (by kernel_rfl) rfl rfl s6 hz6 (by omega) (by omega) ?_
      intro p' c' h7 s7 k7 hp7
      have b7 := b6.keep k7 (fun hh => by have := (s6.blk hh).1; omega)
      refine stores_of b7 rfl (by simp) ?_
      intro h8 b8 k8 z8
      refine again_mk (cs := [(false, [.int .i64])]) (((i + 1 : Nat) : Int), ()) (ks.length - (i + 1)) rfl (by omega) (congrArg (fun z => [Value.int .i64 z]) hw) ⟨i + 1, p', l + 1, c', rfl, by omega, rfl, ?_, b8, ?_, by omega⟩
      · exact Ch.trans (Ch.trans k6 k7 (fun j hj hl => by have := (s6.blk hj).1; omega)) k8 (fun j hj _ => hj)
      · rw [htk, List.filterMap_append, List.map_append]
        have hf : ([k].filterMap fun k => if getN D ⟨k.toArray⟩ = 0 then none else some ((⟨k.toArray⟩ : ByteArray), getN D ⟨k.toArray⟩)) = [((⟨k.toArray⟩ : ByteArray), getN D ⟨k.toArray⟩)] := by
          simp only [List.filterMap_cons, List.filterMap_nil]
          rw [if_neg (by omega)]
        rw [hf]
        exact s7.keep' k8 (fun j hj => by have := (s7.blk hj).1; simp; omega)
    · have g2 : ((getN D ⟨k.toArray⟩ : Nat) : Int) = 0 := by simpa using g2
      refine again_mk (cs := [(false, [.int .i64])]) (((i + 1 : Nat) : Int), ()) (ks.length - (i + 1)) rfl (by omega) (congrArg (fun z => [Value.int .i64 z]) hw) ⟨i + 1, p, l, c, rfl, by omega, rfl, k6, b6, ?_, by omega⟩
      rw [htk, List.filterMap_append]
      have hf : ([k].filterMap fun k => if getN D ⟨k.toArray⟩ = 0 then none else some ((⟨k.toArray⟩ : ByteArray), getN D ⟨k.toArray⟩)) = [] := by
        simp only [List.filterMap_cons, List.filterMap_nil]
        rw [if_pos (by omega)]
      rw [hf, List.append_nil]
      exact s6
  · have g1 := of_decide_eq_false g1
    have hi : i = ks.length := by omega
    subst hi
    rw [List.take_length] at s6
    have c6 := c5.keep k6 (by simp; omega)
    refine loads_box b6 ((p, l, c), n, ()) rfl ?_
    dsimp only [flat, unc, unc1, List.nil_append, List.cons_append]
    refine stores_of c6 rfl (by simp) ?_
    intro h7 b7 k7 z7
    have b7 : Box h7 h.size 69 [.slice p l c, .int .u32 n] := b7
    refine loads_box b7 ((p, l, c), n, ()) rfl ?_
    have hz5 := e05.size
    exact ⟨Ch.trans e06 k7 (fun j hj hl => by simp at hj; omega), p, l, c, rfl, (s6.keep' k7 (fun j hj => by have := (s6.blk hj).1; simp; omega)).mono (by omega)⟩
/-- Terms that lie in a heap, to be read. -/
structure VwT (h : Hp) (p : Option Addr) (l : Nat) (us : Tms) : Prop where
  len : l = us.length
  cells : ∀ i, (hi : i < us.length) → ∃ a, p = some a ∧ cellsAt h (a.add (i * 2)) 0 (encT us[i])
theorem VwT.keep {ws : List Nat} {h h' : Hp} {p : Option Addr} {l : Nat} {us : Tms} (v : VwT h p l us) (k : Ch ws h h') (hw : ∀ i, i ∈ blkOf p → i ∉ ws) : VwT h' p l us :=
  ⟨v.len, fun i hi => by
    obtain ⟨a, ha, hc⟩ := v.cells i hi
    exact ⟨a, ha, cellsAt_keep k (by rw [add_block]; exact hw _ (by rw [ha]; simp [blkOf])) _ _ hc⟩⟩
theorem SL.vwT {h : Hp} {b : Nat} {e : TypeId} {p : Option Addr} {l c : Nat} {us : Tms} (s : SL h b e 2 p l c (us.map encT)) : VwT h p l us := by
  refine ⟨by rw [s.1, List.length_map], fun i hi => ?_⟩
  obtain ⟨a, ha, hc⟩ := s.cells (i := i) (by simpa using hi)
  rw [List.getElem_map] at hc
  exact ⟨a, ha, hc⟩
/-- A Lin: terms and a number. -/
structure Lin where
  terms : Tms
  num : Nat
/-- What is handed about for a Lin. -/
def linV (p : Option Addr) (l c : Nat) (x : Lin) : Value := .agg #[.slice p l c, .int .u32 x.num]
def nrm (l : Tms) : Tms := madeL (l.foldl addT [])
def linTimes (x : Lin) (n : Nat) : Lin := ⟨nrm (x.terms.map fun p => (p.1, p.2 * n % 4294967296)), x.num * n % 4294967296⟩
def linAdd (x y : Lin) : Lin := ⟨nrm (x.terms ++ y.terms), (x.num + y.num) % 4294967296⟩
theorem wrap_u32_mod (x : Int) : IntKind.wrap .u32 x = x % 4294967296 := by
  simp only [IntKind.wrap]
  rfl
theorem cast_mod (a : Nat) : ((a % 4294967296 : Nat) : Int) = (a : Int) % 4294967296 := Int.natCast_emod a 4294967296
theorem times_hc {h : Hp} {p : Option Addr} {l c : Nat} {x : Lin} (v : VwT h p l x.terms) (hl : x.terms.length ≤ 2 ^ 40) (hs : ∀ t, t ∈ x.terms → t.1.size ≤ maxLen) (n : Nat) :
    HC Tryd.prog 53 #[linV p l c x, .int .u32 n] h fun w h' => Ext h h' ∧ ∃ p' l' c', w = linV p' l' c' (linTimes x n) ∧ SL h' h.size 80 2 p' l' c' ((linTimes x n).terms.map encT) := by
  refine hcr_of (args := [.agg #[.slice p l c, .int .u32 x.num], .int .u32 n]) mixed Tryd.func53 (by kernel_rfl) (t_expr_Times_eq p l c x.num n) ?_
  unfold t_expr_Times
  refine newB ?_
  intro h1 b1 e1 z1
  refine newB ?_
  intro h2 b2 e2 z2
  refine makeMap_of _ ?_
  intro h3 m3 e3 z3
  refine ⟨(some h2.size, ()), rfl, ?_⟩
  dsimp only [flat, unc, unc1, List.nil_append, List.cons_append]
  have c3 := (b1.keep e2 (by simp)).keep e3 (by simp)
  have b3 := b2.keep e3 (by simp)
  have e03 := (e1.trans e2).trans e3
  have v3 := v.keep e03 (by simp)
  have hll := v.len
  refine loads_box c3 ((p, l, c), ()) rfl ?_
  dsimp only [flat, unc, unc1, List.nil_append, List.cons_append]
  refine loop_of (cs := [(false, [.int .i64])]) (fun y w h' => ∃ (i : Nat), y.1 = (i : Int) ∧ i ≤ x.terms.length ∧ w = x.terms.length - i ∧ Ch [h2.size] h3 h' ∧
    MapB h' h2.size (vm (((x.terms.take i).map fun p => (p.1, p.2 * n % 4294967296)).foldl addT [])) ∧ (((x.terms.take i).map fun p => (p.1, p.2 * n % 4294967296)).foldl addT []).length ≤ i) ((0 : Int), ()) x.terms.length rfl
    ⟨0, rfl, by omega, by omega, Ch.refl _ _, m3, by simp⟩ ?_
  rintro ⟨n8, ⟨⟩⟩ w h4 ⟨i, hi, hile, rfl, k4, m4, hD⟩
  simp only at hi
  subst hi
  dsimp only [flat, unc, unc1, List.nil_append, List.cons_append]
  have hz4 := k4.size
  have e04 : Ext h h4 := Ch.trans e03 k4 (fun j hj hl => by simp at hj; omega)
  refine cond_mk (fun g1 => ?_) (fun g1 => ?_)
  · have g1 := of_decide_eq_true g1
    have hilt : i < x.terms.length := by omega
    obtain ⟨a, rfl, hc⟩ := (v.keep e04 (by simp)).cells i hilt
    have htk : x.terms.take (i + 1) = x.terms.take i ++ [x.terms[i]] := List.take_succ_eq_append_getElem hilt
    have hsz := hs x.terms[i] (List.getElem_mem hilt)
    generalize x.terms[i] = t at hc htk hsz
    refine need_of ⟨by omega, by omega⟩ (osome_mk rfl ?_)
    rw [show Int.toNat (i : Int) = i by omega]
    refine loads_of (t.1, (t.2 : Int), ()) hc ?_
    dsimp only [flat, unc, unc1, List.nil_append, List.cons_append]
    refine newB ?_
    intro h5 b5 e5 z5
    refine stores_of b5 rfl (by simp) ?_
    intro h6 b6 k6 z6
    have b6 : Box h6 h4.size 80 (encT t) := b6
    have e46 : Ext h4 h6 := Ch.trans e5 k6 (fun j hj hl => by simp at hj; omega)
    have m6 := m4.keep e46 (by simp)
    have hlt4 := m4.lt
    refine loads_box b6 (t.1, ()) rfl ?_
    dsimp only [flat, unc, unc1, List.nil_append, List.cons_append]
    refine look_of m6 _ ?_
    rw [add_box]
    refine loads_box b6 ((t.2 : Int), ()) rfl ?_
    dsimp only [flat, unc, unc1, List.nil_append, List.cons_append]
    generalize hDD : ((x.terms.take i).map fun p => (p.1, p.2 * n % 4294967296)).foldl addT [] = D at m6 hD
    refine put_of (n := (getN D t.1 + t.2 * n % 4294967296) % 4294967296) m6 hsz ?_ ?_
    · rw [wrap_u32_mod, wrap_u32_mod, cast_mod, Int.natCast_add, cast_mod, Int.natCast_mul]
    · intro h7 m7 k7 z7
      have hw : IntKind.wrap .i64 ((i : Int) + 1) = ((i + 1 : Nat) : Int) := by rw [wrap_i64 (by omega) (by omega)]; omega
      have hf : ((x.terms.take (i + 1)).map fun p => (p.1, p.2 * n % 4294967296)).foldl addT [] = putN D t.1 ((getN D t.1 + t.2 * n % 4294967296) % 4294967296) := by
        rw [htk, List.map_append, List.foldl_append, hDD]
        rfl
      refine again_mk (cs := [(false, [.int .i64])]) (((i + 1 : Nat) : Int), ()) (x.terms.length - (i + 1)) rfl (by omega) (congrArg (fun z => [Value.int .i64 z]) hw) ⟨i + 1, rfl, by omega, rfl, ?_, by rw [hf]; exact m7, ?_⟩
      · exact Ch.trans (Ch.trans k4 e46 (by simp)) k7 (fun j hj _ => hj)
      · rw [hf]
        have := putN_length D t.1 ((getN D t.1 + t.2 * n % 4294967296) % 4294967296)
        omega
  · have g1 := of_decide_eq_false g1
    have hi : i = x.terms.length := by omega
    subst hi
    rw [List.take_length] at m4 hD
    have c4 := c3.keep k4 (by simp; omega)
    have b4 := b3.keep k4 (by simp; omega)
    rw [add_box]
    refine loads_box c4 ((x.num : Int), ()) rfl ?_
    dsimp only [flat, unc, unc1, List.nil_append, List.cons_append]
    refine call_of (made_hc m4 (by omega) _) ?_
    rintro _ h5 ⟨e5, p', l', c', rfl, s5⟩
    refine ⟨((p', l', c'), IntKind.wrap .u32 ((x.num : Int) * (n : Int)), ()), rfl, ?_⟩
    dsimp only [flat, unc, unc1, List.nil_append, List.cons_append]
    refine stores_of (b4.keep e5 (by simp)) rfl (by simp) ?_
    intro h6 b6 k6 z6
    have b6 : Box h6 h1.size 69 [.slice p' l' c', .int .u32 (IntKind.wrap .u32 ((x.num : Int) * (n : Int)))] := b6
    refine loads_box b6 ((p', l', c'), IntKind.wrap .u32 ((x.num : Int) * (n : Int)), ()) rfl ?_
    have hz5 := e04.size
    refine ⟨Ch.trans (e04.trans e5) k6 (fun j hj hl => by simp at hj; omega), p', l', c', ?_, (s5.keep' k6 (fun j hj => by have := (s5.blk hj).1; simp; omega)).mono (by omega)⟩
    unfold linV linTimes
    rw [wrap_u32_mod]
    dsimp only
    rw [cast_mod, Int.natCast_mul]
end Go.Sx

set_option linter.unusedVariables false
set_option linter.unusedSimpArgs false
set_option maxRecDepth 100000
namespace Go.Sx
open Go.Proofs
def ltN (a b : ByteArray) : Prop := a.data.toList < b.data.toList
instance (a b : ByteArray) : Decidable (ltN a b) := inferInstanceAs (Decidable (a.data.toList < b.data.toList))
theorem ltN_irrefl (a : ByteArray) : ¬ ltN a a := List.lt_irrefl (α := UInt8) _
theorem ltN_trans {a b c : ByteArray} (h : ltN a b) (k : ltN b c) : ltN a c := List.lt_trans (α := UInt8) h k
theorem baExt {a b : ByteArray} (h : a.data.toList = b.data.toList) : a = b := by
  cases a; cases b
  simp only at h
  rw [Array.toList_inj.1 h]
theorem ltN_tri (a b : ByteArray) (h : ¬ ltN a b) (k : ¬ ltN b a) : a = b :=
  baExt (List.le_antisymm (α := UInt8) (List.not_lt.1 k) (List.not_lt.1 h))
theorem ltN_ne {a b : ByteArray} (h : ltN a b) : a ≠ b := fun e => by subst e; exact ltN_irrefl _ h
theorem ltN_asymm {a b : ByteArray} (h : ltN a b) : ¬ ltN b a := fun k => ltN_irrefl _ (ltN_trans h k)
/-- Names rising, no coefficient zero. -/
structure Nf (l : Tms) : Prop where
  sorted : l.Pairwise fun p q => ltN p.1 q.1
  coef : ∀ p, p ∈ l → p.2 ≠ 0 ∧ p.2 < 4294967296
def cf : Tms → ByteArray → Nat
  | [], _ => 0
  | p :: l, s => (if p.1 = s then p.2 else 0) + cf l s
theorem cf_nil (s : ByteArray) : cf [] s = 0 := rfl
theorem cf_cons (p : ByteArray × Nat) (l : Tms) (s : ByteArray) : cf (p :: l) s = (if p.1 = s then p.2 else 0) + cf l s := rfl
theorem Nf.tail {p : ByteArray × Nat} {l : Tms} (h : Nf (p :: l)) : Nf l := ⟨(List.pairwise_cons.1 h.1).2, fun q hq => h.2 q (List.mem_cons_of_mem _ hq)⟩
theorem Nf.head {p : ByteArray × Nat} {l : Tms} (h : Nf (p :: l)) : ∀ q, q ∈ l → ltN p.1 q.1 := (List.pairwise_cons.1 h.1).1
theorem Nf.nil : Nf [] := ⟨List.Pairwise.nil, by simp⟩
theorem cf_zero {l : Tms} {s : ByteArray} (h : ∀ p, p ∈ l → p.1 ≠ s) : cf l s = 0 := by
  induction l with
  | nil => rfl
  | cons p l ih =>
    rw [cf_cons, if_neg (h p (List.mem_cons_self ..)), ih fun q hq => h q (List.mem_cons_of_mem _ hq)]
theorem cf_append (l m : Tms) (s : ByteArray) : cf (l ++ m) s = cf l s + cf m s := by
  induction l with
  | nil => simp [cf]
  | cons p l ih => simp only [List.cons_append, cf, ih]; omega
theorem Nf.cf_head {p : ByteArray × Nat} {l : Tms} (h : Nf (p :: l)) : cf (p :: l) p.1 = p.2 := by
  rw [cf_cons, if_pos rfl, cf_zero fun q hq => (ltN_ne (h.head q hq)).symm]
  rfl
theorem Nf.cf_low {l : Tms} {s : ByteArray} (h : ∀ p, p ∈ l → ltN s p.1) : cf l s = 0 := cf_zero fun p hp => (ltN_ne (h p hp)).symm
theorem Nf.uniq : ∀ {l m : Tms}, Nf l → Nf m → (∀ s, cf l s % 4294967296 = cf m s % 4294967296) → l = m
  | [], [], _, _, _ => rfl
  | [], q :: m, _, hm, h => by
    have := h q.1
    rw [hm.cf_head] at this
    have hq := hm.coef q (List.mem_cons_self ..)
    simp only [cf] at this
    omega
  | p :: l, [], hl, _, h => by
    have := h p.1
    rw [hl.cf_head] at this
    have hq := hl.coef p (List.mem_cons_self ..)
    simp only [cf] at this
    omega
  | p :: l, q :: m, hl, hm, h => by
    have hp := hl.coef p (List.mem_cons_self ..)
    have hq := hm.coef q (List.mem_cons_self ..)
    by_cases h1 : ltN p.1 q.1
    · exfalso
      have := h p.1
      rw [hl.cf_head, Nf.cf_low (l := q :: m) (s := p.1) (by
        intro r hr
        rcases List.mem_cons.1 hr with rfl | hr
        · exact h1
        · exact ltN_trans h1 (hm.head r hr))] at this
      omega
    · by_cases h2 : ltN q.1 p.1
      · exfalso
        have := h q.1
        rw [hm.cf_head, Nf.cf_low (l := p :: l) (s := q.1) (by
          intro r hr
          rcases List.mem_cons.1 hr with rfl | hr
          · exact h2
          · exact ltN_trans h2 (hl.head r hr))] at this
        omega
      · have he := ltN_tri _ _ h1 h2
        have h3 := h p.1
        rw [hl.cf_head, he, hm.cf_head] at h3
        have hpq : p = q := by
          obtain ⟨a, b⟩ := p
          obtain ⟨c, d⟩ := q
          simp only at he h3 hp hq
          subst he
          congr 1
          rw [Nat.mod_eq_of_lt hp.2, Nat.mod_eq_of_lt hq.2] at h3
          exact h3
        subst hpq
        congr 1
        refine Nf.uniq hl.tail hm.tail fun s => ?_
        by_cases hs : p.1 = s
        · subst hs
          rw [Nf.cf_low hl.head, Nf.cf_low hm.head]
        · have := h s
          simp only [cf, if_neg hs, Nat.zero_add] at this
          exact this
/-! What 'made' makes. -/
theorem getN_nil (s : ByteArray) : getN [] s = 0 := rfl
theorem getN_cons (p : ByteArray × Nat) (D : Tms) (s : ByteArray) : getN (p :: D) s = if s = p.1 then p.2 else getN D s := by
  unfold getN
  rw [List.find?_cons]
  by_cases h : s = p.1
  · simp [h]
  · simp [h]
theorem getN_append (D : Tms) (s t : ByteArray) (v : Nat) : getN (D ++ [(t, v)]) s = if (D.find? fun p => decide (s = p.1)).isSome then getN D s else if s = t then v else 0 := by
  induction D with
  | nil => simp [getN_cons, getN_nil]
  | cons p D ih =>
    rw [List.cons_append, getN_cons, getN_cons, ih, List.find?_cons]
    by_cases h : s = p.1
    · simp [h]
    · simp only [decide_eq_false h, if_neg h]
theorem getN_none {D : Tms} {s : ByteArray} (h : (D.find? fun p => decide (s = p.1)).isSome = false) : getN D s = 0 := by
  unfold getN
  cases hf : (D.find? fun p => decide (s = p.1)) with
  | none => rfl
  | some x => rw [hf] at h; cases h
theorem getN_map (D : Tms) (t : ByteArray) (v : Nat) (s : ByteArray) : getN (D.map fun p => if t = p.1 then (p.1, v) else p) s = if s = t ∧ (D.find? fun p => decide (t = p.1)).isSome then v else getN D s := by
  induction D with
  | nil => simp [getN_nil]
  | cons p D ih =>
    rw [List.map_cons, getN_cons, ih, getN_cons, List.find?_cons]
    by_cases h : t = p.1
    · subst h
      by_cases k : s = p.1 <;> simp [k]
    · rw [if_neg h]
      by_cases k : s = p.1
      · subst k
        have : ¬ p.1 = t := fun e => h e.symm
        simp [this]
      · simp only [decide_eq_false h, if_neg k]
theorem getN_putN (D : Tms) (t : ByteArray) (v : Nat) (s : ByteArray) : getN (putN D t v) s = if s = t then v else getN D s := by
  unfold putN
  split
  · rename_i hh
    rw [getN_map]
    by_cases k : s = t <;> simp [k, hh]
  · rename_i hh
    rw [getN_append]
    by_cases k : s = t
    · subst k
      simp [hh]
    · rw [if_neg k]
      split
      · rfl
      · rename_i h2
        rw [getN_none (Bool.eq_false_iff.2 h2)]
theorem getN_foldl (l : Tms) (s : ByteArray) : ∀ D : Tms, getN (l.foldl addT D) s % 4294967296 = (getN D s + cf l s) % 4294967296 := by
  induction l with
  | nil => intro D; simp [cf]
  | cons p l ih =>
    intro D
    rw [List.foldl_cons, ih]
    unfold addT
    rw [cf_cons, getN_putN]
    by_cases h : s = p.1
    · subst h
      rw [if_pos rfl, if_pos rfl, Nat.mod_add_mod]
      congr 1; omega
    · rw [if_neg h, if_neg fun e => h e.symm]
      congr 1; omega
theorem putN_nodup {D : Tms} (h : (D.map (·.1)).Nodup) (t : ByteArray) (v : Nat) : ((putN D t v).map (·.1)).Nodup := by
  unfold putN
  have h1 : (D.find? fun p => decide (t = p.1)).isSome = true ↔ t ∈ D.map (·.1) := by
    rw [List.find?_isSome]
    simp [eq_comm]
  split
  · have e : (D.map fun p => if t = p.1 then (p.1, v) else p).map (·.1) = D.map (·.1) := by
      rw [List.map_map]
      refine List.map_congr_left fun p hp => ?_
      simp only [Function.comp]
      split <;> rfl
    rw [e]; exact h
  · rename_i hn
    rw [List.map_append, List.nodup_append]
    refine ⟨h, by simp, ?_⟩
    rintro a ha b hb rfl
    simp only [List.map_cons, List.map_nil, List.mem_singleton] at hb
    subst hb
    exact hn (h1.2 ha)
theorem foldl_keys (l : Tms) : ∀ D : Tms, (D.map (·.1)).Nodup → ((l.foldl addT D).map (·.1)).Nodup := by
  induction l with
  | nil => intro D h; exact h
  | cons p l ih =>
    intro D h
    rw [List.foldl_cons]
    exact ih _ (putN_nodup h _ _)
theorem getN_lt (l : Tms) : ∀ D : Tms, (∀ s, getN D s < 4294967296) → ∀ s, getN (l.foldl addT D) s < 4294967296 := by
  induction l with
  | nil => intro D h; exact h
  | cons p l ih =>
    intro D h
    rw [List.foldl_cons]
    refine ih _ fun s => ?_
    unfold addT
    rw [getN_putN]
    split
    · exact Nat.mod_lt _ (by decide)
    · exact h s
theorem getN_out {D : Tms} {s : ByteArray} (h : s ∉ D.map (·.1)) : getN D s = 0 := by
  refine getN_none ?_
  cases hf : (D.find? fun p => decide (s = p.1)).isSome with
  | false => rfl
  | true =>
    rw [List.find?_isSome] at hf
    obtain ⟨x, hx, hs⟩ := hf
    exact absurd (List.mem_map.2 ⟨x, hx, (of_decide_eq_true hs).symm⟩) h
/-- Of sorted names those that have a coefficient. -/
def pick (g : ByteArray → Nat) (ks : List (List UInt8)) : Tms := ks.filterMap fun k => if g ⟨k.toArray⟩ = 0 then none else some (⟨k.toArray⟩, g ⟨k.toArray⟩)
theorem cf_pick (g : ByteArray → Nat) (s : ByteArray) : ∀ ks : List (List UInt8), ks.Nodup → cf (pick g ks) s = if s.data.toList ∈ ks then g s else 0 := by
  intro ks
  induction ks with
  | nil => intro _; simp [pick, cf]
  | cons k ks ih =>
    intro h
    rw [List.nodup_cons] at h
    have ih := ih h.2
    unfold pick at ih ⊢
    rw [List.filterMap_cons]
    have e1 : (⟨k.toArray⟩ : ByteArray) = s ↔ s.data.toList = k := by
      constructor
      · rintro rfl; simp
      · intro e; exact baExt (by simp [e])
    by_cases hk : s.data.toList = k
    · have hs := e1.2 hk
      rw [hs]
      split
      · rename_i hg
        split at hg
        · rename_i h0
          rw [ih, h0]
          simp
        · cases hg
      · rename_i hg
        split at hg
        · cases hg
        · cases hg
          rw [cf_cons, ih, if_pos rfl, if_neg (by rw [hk]; exact h.1), if_pos (by rw [hk]; simp)]
          rfl
    · have hs : ¬ (⟨k.toArray⟩ : ByteArray) = s := fun e => hk (e1.1 e)
      split
      · rw [ih]
        simp [hk]
      · rename_i hg
        split at hg
        · cases hg
        · cases hg
          rw [cf_cons, ih, if_neg hs]
          simp [hk]
theorem pick_nf (g : ByteArray → Nat) (hg : ∀ s, g s < 4294967296) {ks : List (List UInt8)} (h : ks.Pairwise fun a b => a < b) : Nf (pick g ks) := by
  refine ⟨?_, ?_⟩
  · unfold pick
    refine List.Pairwise.filterMap _ ?_ h
    intro a b hab p hp q hq
    split at hp
    · cases hp
    · split at hq
      · cases hq
      · cases hp; cases hq
        unfold ltN
        simpa using hab
  · intro p hp
    unfold pick at hp
    rw [List.mem_filterMap] at hp
    obtain ⟨k, _, hk⟩ := hp
    split at hk
    · cases hk
    · rename_i h0
      cases hk
      exact ⟨h0, hg _⟩
theorem keysOf_perm (D : Tms) : (keysOf (vm D)).Perm (D.map fun p => p.1.data.toList) := by
  unfold keysOf vm
  rw [List.map_map]
  exact List.mergeSort_perm _ _
theorem keysOf_sorted {D : Tms} (h : (D.map (·.1)).Nodup) : (keysOf (vm D)).Pairwise fun a b => a < b := by
  have hn : (keysOf (vm D)).Nodup := by
    refine (keysOf_perm D).nodup_iff.2 ?_
    have : (D.map fun p => p.1.data.toList) = (D.map (·.1)).map fun s => s.data.toList := by rw [List.map_map]; rfl
    rw [this]
    exact List.pairwise_map.2 (h.imp fun hne e => hne (baExt e))
  have hs : (keysOf (vm D)).Pairwise fun a b => a ≤ b := by
    unfold keysOf
    refine (List.pairwise_mergeSort ?_ ?_ _).imp ?_
    · intro a b c h1 h2
      exact decide_eq_true (List.le_trans (α := UInt8) (of_decide_eq_true h1) (of_decide_eq_true h2))
    · intro a b
      simp only [Bool.or_eq_true, decide_eq_true_eq]
      exact List.le_total (α := UInt8) a b
    · intro a b hab
      exact of_decide_eq_true hab
  refine (hs.and hn).imp ?_
  rintro a b ⟨h1, h2⟩
  by_cases hlt : a < b
  · exact hlt
  · exact absurd (List.le_antisymm (α := UInt8) h1 (List.not_lt.1 hlt)) h2
theorem nrm_pick (l : Tms) : nrm l = pick (getN (l.foldl addT [])) (keysOf (vm (l.foldl addT []))) := rfl
theorem nrm_nf (l : Tms) : Nf (nrm l) := by
  rw [nrm_pick]
  exact pick_nf _ (getN_lt l [] (fun s => by rw [getN_nil]; decide)) (keysOf_sorted (foldl_keys l [] (by simp)))
theorem cf_nrm (l : Tms) (s : ByteArray) : cf (nrm l) s = cf l s % 4294967296 := by
  have h1 := getN_foldl l s []
  rw [getN_nil, Nat.zero_add, Nat.mod_eq_of_lt (getN_lt l [] (fun s => by rw [getN_nil]; decide) s)] at h1
  rw [nrm_pick, cf_pick _ _ _ ((keysOf_sorted (foldl_keys l [] (by simp))).imp fun h e => by subst e; exact List.lt_irrefl (α := UInt8) _ h)]
  split
  · exact h1
  · rename_i hn
    rw [← h1, getN_out]
    intro hm
    refine hn ((keysOf_perm _).mem_iff.2 ?_)
    obtain ⟨p, hp, rfl⟩ := List.mem_map.1 hm
    exact List.mem_map.2 ⟨p, hp, rfl⟩
/-! The reference's sums and products. -/
def timesN (n : Nat) (l : Tms) : Tms := l.filterMap fun p => if p.2 * n % 4294967296 = 0 then none else some (p.1, p.2 * n % 4294967296)
def addF : Nat → Tms → Tms → Tms
  | 0, _, _ => []
  | n + 1, x, y => match x, y with
    | [], [] => []
    | p :: x, [] => p :: addF n x []
    | [], q :: y => q :: addF n [] y
    | p :: x, q :: y => if ltN p.1 q.1 then p :: addF n x (q :: y) else if ltN q.1 p.1 then q :: addF n (p :: x) y else if (p.2 + q.2) % 4294967296 = 0 then addF n x y else (p.1, (p.2 + q.2) % 4294967296) :: addF n x y
def addM (x y : Tms) : Tms := addF (x.length + y.length) x y
theorem timesN_nf {n : Nat} {l : Tms} (h : Nf l) : Nf (timesN n l) := by
  refine ⟨?_, ?_⟩
  · unfold timesN
    refine List.Pairwise.filterMap _ ?_ h.1
    intro a b hab p hp q hq
    split at hp
    · cases hp
    · split at hq
      · cases hq
      · cases hp; cases hq
        exact hab
  · intro p hp
    unfold timesN at hp
    rw [List.mem_filterMap] at hp
    obtain ⟨k, _, hk⟩ := hp
    split at hk
    · cases hk
    · rename_i h0
      cases hk
      exact ⟨h0, Nat.mod_lt _ (by decide)⟩
theorem cf_timesN (n : Nat) (l : Tms) (s : ByteArray) : cf (timesN n l) s % 4294967296 = cf l s * n % 4294967296 := by
  induction l with
  | nil => simp [timesN, cf]
  | cons p l ih =>
    have hc : cf (timesN n (p :: l)) s = (if p.1 = s then p.2 * n % 4294967296 else 0) + cf (timesN n l) s := by
      unfold timesN
      rw [List.filterMap_cons]
      split
      · rename_i hg
        split at hg
        · rename_i h0
          rw [h0]; simp
        · cases hg
      · rename_i hg
        split at hg
        · cases hg
        · cases hg
          rfl
    rw [hc, Nat.add_mod, ih, cf_cons]
    by_cases h : p.1 = s
    · rw [if_pos h, if_pos h, Nat.add_mul, Nat.mod_mod, ← Nat.add_mod]
    · rw [if_neg h, if_neg h, Nat.zero_add]; simp
theorem mem_addF {n : Nat} {x y : Tms} {r : ByteArray × Nat} (h : r ∈ addF n x y) : (∃ p, p ∈ x ∧ p.1 = r.1) ∨ (∃ q, q ∈ y ∧ q.1 = r.1) := by
  induction n generalizing x y with
  | zero => simp [addF] at h
  | succ n ih =>
    rcases x with _ | ⟨p, x⟩ <;> rcases y with _ | ⟨q, y⟩
    · simp [addF] at h
    · simp only [addF, List.mem_cons] at h
      rcases h with rfl | h
      · exact .inr ⟨_, by simp, rfl⟩
      · rcases ih h with ⟨a, ha, e⟩ | ⟨a, ha, e⟩
        · simp at ha
        · exact .inr ⟨a, by simp [ha], e⟩
    · simp only [addF, List.mem_cons] at h
      rcases h with rfl | h
      · exact .inl ⟨_, by simp, rfl⟩
      · rcases ih h with ⟨a, ha, e⟩ | ⟨a, ha, e⟩
        · exact .inl ⟨a, by simp [ha], e⟩
        · simp at ha
    · simp only [addF] at h
      split at h
      · rcases List.mem_cons.1 h with rfl | h
        · exact .inl ⟨_, by simp, rfl⟩
        · rcases ih h with ⟨a, ha, e⟩ | ⟨a, ha, e⟩
          · exact .inl ⟨a, by simp [ha], e⟩
          · exact .inr ⟨a, ha, e⟩
      · split at h
        · rcases List.mem_cons.1 h with rfl | h
          · exact .inr ⟨_, by simp, rfl⟩
          · rcases ih h with ⟨a, ha, e⟩ | ⟨a, ha, e⟩
            · exact .inl ⟨a, ha, e⟩
            · exact .inr ⟨a, by simp [ha], e⟩
        · split at h
          · rcases ih h with ⟨a, ha, e⟩ | ⟨a, ha, e⟩
            · exact .inl ⟨a, by simp [ha], e⟩
            · exact .inr ⟨a, by simp [ha], e⟩
          · rcases List.mem_cons.1 h with rfl | h
            · exact .inl ⟨p, by simp, rfl⟩
            · rcases ih h with ⟨a, ha, e⟩ | ⟨a, ha, e⟩
              · exact .inl ⟨a, by simp [ha], e⟩
              · exact .inr ⟨a, by simp [ha], e⟩
theorem Nf.cons {p : ByteArray × Nat} {l : Tms} (h : Nf l) (hc : p.2 ≠ 0 ∧ p.2 < 4294967296) (hl : ∀ q, q ∈ l → ltN p.1 q.1) : Nf (p :: l) :=
  ⟨List.pairwise_cons.2 ⟨hl, h.1⟩, fun q hq => by rcases List.mem_cons.1 hq with rfl | hq; exact hc; exact h.2 q hq⟩
theorem addF_nf {n : Nat} {x y : Tms} (hx : Nf x) (hy : Nf y) : Nf (addF n x y) := by
  induction n generalizing x y with
  | zero => exact Nf.nil
  | succ n ih =>
    rcases x with _ | ⟨p, x⟩ <;> rcases y with _ | ⟨q, y⟩
    · exact Nf.nil
    · simp only [addF]
      refine (ih Nf.nil hy.tail).cons (hy.2 q (by simp)) fun r hr => ?_
      rcases mem_addF hr with ⟨a, ha, e⟩ | ⟨a, ha, e⟩
      · simp at ha
      · rw [← e]; exact hy.head a ha
    · simp only [addF]
      refine (ih hx.tail Nf.nil).cons (hx.2 p (by simp)) fun r hr => ?_
      rcases mem_addF hr with ⟨a, ha, e⟩ | ⟨a, ha, e⟩
      · rw [← e]; exact hx.head a ha
      · simp at ha
    · simp only [addF]
      split
      · rename_i h1
        refine (ih hx.tail hy).cons (hx.2 p (by simp)) fun r hr => ?_
        rcases mem_addF hr with ⟨a, ha, e⟩ | ⟨a, ha, e⟩
        · rw [← e]; exact hx.head a ha
        · rw [← e]
          rcases List.mem_cons.1 ha with rfl | ha
          · exact h1
          · exact ltN_trans h1 (hy.head a ha)
      · rename_i h1
        split
        · rename_i h2
          refine (ih hx hy.tail).cons (hy.2 q (by simp)) fun r hr => ?_
          rcases mem_addF hr with ⟨a, ha, e⟩ | ⟨a, ha, e⟩
          · rw [← e]
            rcases List.mem_cons.1 ha with rfl | ha
            · exact h2
            · exact ltN_trans h2 (hx.head a ha)
          · rw [← e]; exact hy.head a ha
        · rename_i h2
          have he := ltN_tri _ _ h1 h2
          split
          · exact ih hx.tail hy.tail
          · rename_i h0
            refine (ih hx.tail hy.tail).cons ⟨h0, Nat.mod_lt _ (by decide)⟩ fun r hr => ?_
            rcases mem_addF hr with ⟨a, ha, e⟩ | ⟨a, ha, e⟩
            · rw [← e]; exact hx.head a ha
            · rw [← e]
              show ltN p.1 a.1
              rw [he]; exact hy.head a ha
theorem cf_addF {n : Nat} {x y : Tms} (hn : x.length + y.length ≤ n) (s : ByteArray) : cf (addF n x y) s % 4294967296 = (cf x s + cf y s) % 4294967296 := by
  induction n generalizing x y with
  | zero =>
    have h1 : x = [] := List.length_eq_zero_iff.1 (by omega)
    have h2 : y = [] := List.length_eq_zero_iff.1 (by omega)
    subst h1 h2
    rfl
  | succ n ih =>
    rcases x with _ | ⟨p, x⟩ <;> rcases y with _ | ⟨q, y⟩
    · rfl
    · simp only [addF, cf_cons, cf_nil]
      have := ih (x := []) (y := y) (by simp at hn ⊢; omega)
      simp only [cf_nil] at this
      omega
    · simp only [addF, cf_cons, cf_nil]
      have := ih (x := x) (y := []) (by simp at hn ⊢; omega)
      simp only [cf_nil] at this
      omega
    · simp only [List.length_cons] at hn
      simp only [addF]
      split
      · have := ih (x := x) (y := q :: y) (by simp; omega)
        simp only [cf_cons] at this ⊢
        omega
      · rename_i h1
        split
        · have := ih (x := p :: x) (y := y) (by simp; omega)
          simp only [cf_cons] at this ⊢
          omega
        · rename_i h2
          have he := ltN_tri _ _ h1 h2
          have := ih (x := x) (y := y) (by omega)
          split
          · rename_i h0
            simp only [cf_cons, ← he]
            split
            · omega
            · omega
          · simp only [cf_cons, ← he]
            split
            · omega
            · omega
theorem addM_nf {x y : Tms} (hx : Nf x) (hy : Nf y) : Nf (addM x y) := addF_nf hx hy
theorem cf_addM (x y : Tms) (s : ByteArray) : cf (addM x y) s % 4294967296 = (cf x s + cf y s) % 4294967296 := cf_addF (Nat.le_refl _) s
theorem addF_addM {n : Nat} {x y : Tms} (hx : Nf x) (hy : Nf y) (hn : x.length + y.length ≤ n) : addF n x y = addM x y :=
  Nf.uniq (addF_nf hx hy) (addM_nf hx hy) fun s => by rw [cf_addF hn, cf_addM]
theorem nrm_addM {x y : Tms} (hx : Nf x) (hy : Nf y) : nrm (x ++ y) = addM x y :=
  Nf.uniq (nrm_nf _) (addM_nf hx hy) fun s => by rw [cf_nrm, cf_addM, cf_append, Nat.mod_mod]
theorem cf_map_times (n : Nat) (l : Tms) (s : ByteArray) : cf (l.map fun p => (p.1, p.2 * n % 4294967296)) s % 4294967296 = cf l s * n % 4294967296 := by
  induction l with
  | nil => simp [cf]
  | cons p l ih =>
    simp only [List.map_cons, cf]
    rw [Nat.add_mod, ih]
    by_cases h : p.1 = s
    · rw [if_pos h, if_pos h, Nat.add_mul, Nat.mod_mod, ← Nat.add_mod]
    · rw [if_neg h, if_neg h, Nat.zero_add]; simp
theorem nrm_timesN {n : Nat} {l : Tms} (h : Nf l) : nrm (l.map fun p => (p.1, p.2 * n % 4294967296)) = timesN n l :=
  Nf.uniq (nrm_nf _) (timesN_nf h) fun s => by rw [cf_nrm, cf_timesN, Nat.mod_mod, cf_map_times]
def linT (x : Lin) (n : Nat) : Lin := ⟨timesN n x.terms, x.num * n % 4294967296⟩
def linA (x y : Lin) : Lin := ⟨addM x.terms y.terms, (x.num + y.num) % 4294967296⟩
theorem linTimes_eq {x : Lin} (h : Nf x.terms) (n : Nat) : linTimes x n = linT x n := by unfold linTimes linT; rw [nrm_timesN h]
theorem linAdd_eq {x y : Lin} (h : Nf x.terms) (k : Nf y.terms) : linAdd x y = linA x y := by unfold linAdd linA; rw [nrm_addM h k]
theorem timesN_length (n : Nat) (l : Tms) : (timesN n l).length ≤ l.length := List.length_filterMap_le _ _
theorem addF_length (n : Nat) (x y : Tms) : (addF n x y).length ≤ x.length + y.length := by
  induction n generalizing x y with
  | zero => simp [addF]
  | succ n ih =>
    rcases x with _ | ⟨p, x⟩ <;> rcases y with _ | ⟨q, y⟩
    · simp [addF]
    · have := ih [] y
      simp only [addF, List.length_cons, List.length_nil] at this ⊢; omega
    · have := ih x []
      simp only [addF, List.length_cons, List.length_nil] at this ⊢; omega
    · have h1 := ih x (q :: y)
      have h2 := ih (p :: x) y
      have h3 := ih x y
      simp only [List.length_cons] at h1 h2 ⊢
      simp only [addF]
      split
      · simp only [List.length_cons]; omega
      · split
        · simp only [List.length_cons]; omega
        · split
          · omega
          · simp only [List.length_cons]; omega
theorem addM_length (x y : Tms) : (addM x y).length ≤ x.length + y.length := addF_length _ x y
theorem mem_addM {x y : Tms} {r : ByteArray × Nat} (h : r ∈ addM x y) : (∃ p, p ∈ x ∧ p.1 = r.1) ∨ (∃ q, q ∈ y ∧ q.1 = r.1) := mem_addF h
theorem mem_timesN {n : Nat} {x : Tms} {r : ByteArray × Nat} (h : r ∈ timesN n x) : ∃ p, p ∈ x ∧ p.1 = r.1 := by
  unfold timesN at h
  rw [List.mem_filterMap] at h
  obtain ⟨k, hk, hr⟩ := h
  split at hr
  · cases hr
  · cases hr
    exact ⟨k, hk, rfl⟩
end Go.Sx

set_option linter.unusedVariables false
set_option maxRecDepth 100000
namespace Go.Sx
open Go.Proofs
/-- The loop that adds a list's terms to a map's. -/
def sumT (r : Option Nat) (p : Option Addr) (l lv : Nat) (k : T) : T :=
  T.loop [(false, [.int .i64])] [.int .i64 (0 : Int)] <| fun (n20 : Int) =>
  cond (decide (n20 < (l : Int)))
   (T.need (((0 : Int) ≤ n20) ∧ (n20 < (l : Int))) <|
   T.osome p <| fun (a21 : Addr) =>
   T.loads (a21.add ((Int.toNat n20) * 2)) [.string, .int .u32] <| fun (s22 : ByteArray) (n23 : Int) =>
   T.new [.string ⟨#[]⟩, .int .u32 (0 : Int)] 80 <| fun (a24 : Addr) =>
   T.stores a24 [.string s22, .int .u32 n23] <|
   T.loads a24 [.string] <| fun (s25 : ByteArray) =>
   T.sem Tryd.prog (Instr.lookup 78 (.map r) (.string s25) false) false [(false, [.int .u32])] <| fun (n26 : Int) =>
   T.loads (a24.add 1) [.int .u32] <| fun (n27 : Int) =>
   T.semU Tryd.prog (Instr.mapUpdate 78 (.map r) (.string s25) (.int .u32 (IntKind.wrap .u32 (n26 + n27)))) <|
   T.again lv [.int .i64 (IntKind.wrap .i64 (n20 + (1 : Int)))]) k
theorem foldl_length (l : Tms) : ∀ D : Tms, (l.foldl addT D).length ≤ D.length + l.length := by
  induction l with
  | nil => intro D; simp
  | cons p l ih =>
    intro D
    rw [List.foldl_cons]
    have h1 := ih (addT D p)
    have h2 := putN_length D p.1 ((getN D p.1 + p.2) % 4294967296)
    have h3 : (addT D p).length ≤ D.length + 1 := h2
    simp only [List.length_cons]
    omega
theorem sumT_of {L : Lp} {K : Value → Hp → Prop} {h : Hp} {g : Nat} {p : Option Addr} {l : Nat} {us D : Tms} {k : T} {lv : Nat} (hlv : L.length = lv) (v : VwT h p l us) (hl : us.length ≤ 2 ^ 40) (hs : ∀ t, t ∈ us → t.1.size ≤ maxLen) (m : MapB h g (vm D)) (hg : g ∉ blkOf p)
    (hk : ∀ J h', MapB h' g (vm (us.foldl addT D)) → Ch [g] h h' → k (L ++ [J]) K h') : sumT (some g) p l lv k L K h := by
  have hll := v.len
  have hL : ∀ J : List Value → Hp → Prop, (L ++ [J])[lv]? = some J := by intro J; subst hlv; simp
  unfold sumT
  refine loop_of (cs := [(false, [.int .i64])]) (fun y w h' => ∃ (i : Nat), y.1 = (i : Int) ∧ i ≤ us.length ∧ w = us.length - i ∧ Ch [g] h h' ∧ MapB h' g (vm ((us.take i).foldl addT D))) ((0 : Int), ()) us.length rfl
    ⟨0, rfl, by omega, by omega, Ch.refl _ _, by simpa using m⟩ ?_
  rintro ⟨n8, ⟨⟩⟩ w h4 ⟨i, hi, hile, rfl, k4, m4⟩
  simp only at hi
  subst hi
  dsimp only [flat, unc, unc1, List.nil_append, List.cons_append]
  refine cond_mk (fun g1 => ?_) (fun g1 => ?_)
  · have g1 := of_decide_eq_true g1
    have hilt : i < us.length := by omega
    obtain ⟨a, rfl, hc⟩ := (v.keep k4 (by intro j hj hm; rw [List.mem_singleton] at hm; subst hm; exact hg hj)).cells i hilt
    have htk : us.take (i + 1) = us.take i ++ [us[i]] := List.take_succ_eq_append_getElem hilt
    have hsz := hs us[i] (List.getElem_mem hilt)
    generalize us[i] = t at hc htk hsz
    refine need_of ⟨by omega, by omega⟩ (osome_mk rfl ?_)
    rw [show Int.toNat (i : Int) = i by omega]
    refine loads_of (t.1, (t.2 : Int), ()) hc ?_
    dsimp only [flat, unc, unc1, List.nil_append, List.cons_append]
    refine newB ?_
    intro h5 b5 e5 z5
    refine stores_of b5 rfl (by simp) ?_
    intro h6 b6 k6 z6
    have b6 : Box h6 h4.size 80 (encT t) := b6
    have e46 : Ext h4 h6 := Ch.trans e5 k6 (fun j hj hl => by simp at hj; omega)
    have m6 := m4.keep e46 (by simp)
    refine loads_box b6 (t.1, ()) rfl ?_
    dsimp only [flat, unc, unc1, List.nil_append, List.cons_append]
    refine look_of m6 _ ?_
    rw [add_box]
    refine loads_box b6 ((t.2 : Int), ()) rfl ?_
    dsimp only [flat, unc, unc1, List.nil_append, List.cons_append]
    generalize hDD : (us.take i).foldl addT D = D' at m6
    refine put_of (n := (getN D' t.1 + t.2) % 4294967296) m6 hsz ?_ ?_
    · rw [wrap_u32_mod, cast_mod, Int.natCast_add]
    · intro h7 m7 k7 z7
      have hw : IntKind.wrap .i64 ((i : Int) + 1) = ((i + 1 : Nat) : Int) := by rw [wrap_i64 (by omega) (by omega)]; omega
      have hf : (us.take (i + 1)).foldl addT D = putN D' t.1 ((getN D' t.1 + t.2) % 4294967296) := by
        rw [htk, List.foldl_append, hDD]
        rfl
      refine again_mk (cs := [(false, [.int .i64])]) (((i + 1 : Nat) : Int), ()) (us.length - (i + 1)) (hL _) (by omega) (congrArg (fun z => [Value.int .i64 z]) hw) ⟨i + 1, rfl, by omega, rfl, ?_, by rw [hf]; exact m7⟩
      exact Ch.trans (Ch.trans k4 e46 (by simp)) k7 (fun j hj _ => hj)
  · have g1 := of_decide_eq_false g1
    have hi : i = us.length := by omega
    subst hi
    rw [List.take_length] at m4
    exact hk _ _ m4 k4
theorem VwT.ofLt {h : Hp} {p : Option Addr} {l : Nat} {us : Tms} (v : VwT h p l us) (hn : us ≠ []) : ∀ i, i ∈ blkOf p → i < h.size := by
  intro i hi
  cases us with
  | nil => exact absurd rfl hn
  | cons t us =>
    obtain ⟨a, rfl, hc⟩ := v.cells 0 (by simp)
    simp only [blkOf, List.mem_singleton] at hi
    subst hi
    rw [show a.add (0 * 2) = a by simp [Addr.add]] at hc
    have h1 := hc.1
    unfold hcell at h1
    split at h1
    · rename_i hg
      have := lt_of_get hg
      simpa [add_block] using this
    · cases h1
theorem und87 : Tryd.prog.underlying 87 = some (.slice 67) := by kernel_rfl
theorem slZ67 : (Tryd.prog.info? 67).map (fun i => (i.zero, i.size, i.bytes)) = some (some (.slice none 0 0), 1, 24) := by kernel_rfl
theorem add_hc {h : Hp} {p q : Option Addr} {l c m d : Nat} {x y : Lin} (v : VwT h p l x.terms) (u : VwT h q m y.terms) (hp : ∀ i, i ∈ blkOf p → i < h.size) (hq : ∀ i, i ∈ blkOf q → i < h.size)
    (hl : x.terms.length + y.terms.length ≤ 2 ^ 40) (hx : ∀ t, t ∈ x.terms → t.1.size ≤ maxLen) (hy : ∀ t, t ∈ y.terms → t.1.size ≤ maxLen) :
    HC Tryd.prog 52 #[linV p l c x, linV q m d y] h fun w h' => Ext h h' ∧ ∃ p' l' c', w = linV p' l' c' (linAdd x y) ∧ SL h' h.size 80 2 p' l' c' ((linAdd x y).terms.map encT) := by
  refine hcr_of (args := [.agg #[.slice p l c, .int .u32 x.num], .agg #[.slice q m d, .int .u32 y.num]]) mixed Tryd.func52 (by kernel_rfl) (t_expr_Add_eq p l c x.num q m d y.num) ?_
  unfold t_expr_Add
  refine newB ?_
  intro h1 b1 e1 z1
  refine newB ?_
  intro h2 b2 e2 z2
  refine newB ?_
  intro h3 b3 e3 z3
  refine makeMap_of _ ?_
  intro h4 m4 e4 z4
  refine ⟨(some h3.size, ()), rfl, ?_⟩
  dsimp only [flat, unc, unc1, List.nil_append, List.cons_append]
  have b1 := ((b1.keep e2 (by simp)).keep e3 (by simp)).keep e4 (by simp)
  have b2 := (b2.keep e3 (by simp)).keep e4 (by simp)
  have b3 := b3.keep e4 (by simp)
  have e04 := ((e1.trans e2).trans e3).trans e4
  refine loads_box b1 ((p, l, c), ()) rfl ?_
  dsimp only [flat, unc, unc1, List.nil_append, List.cons_append]
  refine loads_box b2 ((q, m, d), ()) rfl ?_
  dsimp only [flat, unc, unc1, List.nil_append, List.cons_append]
  refine lit_of (cells := [.slice p l c, .slice q m d]) und87 slZ67 (by decide) (by decide) (by kernel_rfl) ?_
  intro h5 b5 e5 z5
  have m5 : MapB h5 h3.size (vm []) := m4.keep e5 (by simp)
  have b1 := b1.keep e5 (by simp)
  have b2 := b2.keep e5 (by simp)
  have b3 := b3.keep e5 (by simp)
  have e05 := e04.trans e5
  have hb5 := b5.lt
  have hm4 := m4.lt
  refine loop_of (cs := [(false, [.int .i64])]) (fun z w h' => ∃ (i : Nat), z.1 = (i : Int) ∧ i ≤ 2 ∧ w = 2 - i ∧ Ch [h3.size] h5 h' ∧ MapB h' h3.size (vm ((([x.terms, y.terms].take i).flatten).foldl addT []))) ((0 : Int), ()) 2 rfl
    ⟨0, rfl, by omega, by omega, Ch.refl _ _, m5⟩ ?_
  rintro ⟨n8, ⟨⟩⟩ w h6 ⟨i, hi, hile, rfl, k6, m6⟩
  simp only at hi
  subst hi
  dsimp only [flat, unc, unc1, List.nil_append, List.cons_append]
  have b6 := b5.keep k6 (by simp; omega)
  have e06 : Ext h h6 := Ch.trans e05 k6 (fun j hj hl => by simp at hj; omega)
  refine cond_mk (fun g1 => ?_) (fun g1 => ?_)
  · have g1 := of_decide_eq_true g1
    refine need_of ⟨by omega, by omega⟩ (osome_mk rfl ?_)
    rw [show Int.toNat (i : Int) = i by omega, add_box]
    have hw : IntKind.wrap .i64 ((i : Int) + 1) = ((i + 1 : Nat) : Int) := by rw [wrap_i64 (by omega) (by omega)]; omega
    have hi2 : i = 0 ∨ i = 1 := by omega
    rcases hi2 with rfl | rfl
    · refine loads_box b6 ((p, l, c), ()) rfl ?_
      dsimp only [flat, unc, unc1, List.nil_append, List.cons_append]
      refine sumT_of (us := x.terms) (D := []) rfl (v.keep e06 (by simp)) (by omega) hx m6 (fun hh => by have := hp _ hh; omega) ?_
      intro J h7 m7 k7
      refine again_mk (cs := [(false, [.int .i64])]) (((0 + 1 : Nat) : Int), ()) (2 - (0 + 1)) rfl (by omega) (congrArg (fun z => [Value.int .i64 z]) hw) ⟨0 + 1, rfl, by omega, rfl, Ch.trans k6 k7 (fun j hj _ => hj), ?_⟩
      simpa using m7
    · refine loads_box b6 ((q, m, d), ()) rfl ?_
      dsimp only [flat, unc, unc1, List.nil_append, List.cons_append]
      refine sumT_of (us := y.terms) (D := x.terms.foldl addT []) rfl (u.keep e06 (by simp)) (by omega) hy (by simpa using m6) (fun hh => by have := hq _ hh; omega) ?_
      intro J h7 m7 k7
      refine again_mk (cs := [(false, [.int .i64])]) (((1 + 1 : Nat) : Int), ()) (2 - (1 + 1)) rfl (by omega) (congrArg (fun z => [Value.int .i64 z]) hw) ⟨1 + 1, rfl, by omega, rfl, Ch.trans k6 k7 (fun j hj _ => hj), ?_⟩
      simpa using m7
  · have g1 := of_decide_eq_false g1
    have hi : i = 2 := by omega
    subst hi
    have m6 : MapB h6 h3.size (vm ((x.terms ++ y.terms).foldl addT [])) := by simpa using m6
    have b1 := b1.keep k6 (by simp; omega)
    have b2 := b2.keep k6 (by simp; omega)
    have b3 := b3.keep k6 (by simp; omega)
    rw [add_box, add_box]
    refine loads_box b1 ((x.num : Int), ()) rfl ?_
    dsimp only [flat, unc, unc1, List.nil_append, List.cons_append]
    refine loads_box b2 ((y.num : Int), ()) rfl ?_
    dsimp only [flat, unc, unc1, List.nil_append, List.cons_append]
    refine call_of (made_hc m6 (by have := foldl_length (x.terms ++ y.terms) []; rw [List.length_append, List.length_nil] at this; omega) _) ?_
    rintro _ h7 ⟨e7, p', l', c', rfl, s7⟩
    refine ⟨((p', l', c'), IntKind.wrap .u32 ((x.num : Int) + (y.num : Int)), ()), rfl, ?_⟩
    dsimp only [flat, unc, unc1, List.nil_append, List.cons_append]
    refine stores_of (b3.keep e7 (by simp)) rfl (by simp) ?_
    intro h8 b8 k8 z8
    have b8 : Box h8 h2.size 69 [.slice p' l' c', .int .u32 (IntKind.wrap .u32 ((x.num : Int) + (y.num : Int)))] := b8
    refine loads_box b8 ((p', l', c'), IntKind.wrap .u32 ((x.num : Int) + (y.num : Int)), ()) rfl ?_
    have hz6 := e06.size
    have hz2 := (e1.trans e2).size
    have hb3 := b3.lt
    refine ⟨Ch.trans (e06.trans e7) k8 (fun j hj hl => by simp at hj; omega), p', l', c', ?_, (s7.keep' k8 (fun j hj => by have := (s7.blk hj).1; simp; omega)).mono (by omega)⟩
    unfold linV linAdd
    rw [wrap_u32_mod]
    dsimp only
    rw [cast_mod, Int.natCast_add]
end Go.Sx

set_option linter.unusedVariables false
set_option linter.unusedSimpArgs false
set_option maxRecDepth 100000
namespace Go.Sx
open Go.Proofs
abbrev PRes := Except Nat (Lin × List Tok)
def negB (b : Bool) (x : Lin) : Lin := if b = true then linT x 4294967295 else x
def linZ : Lin := ⟨[], 0⟩
def facH (o : Option (List Tok → PRes)) (ts : List Tok) : PRes :=
  match ts with
  | [] => .error 20
  | t :: r =>
    if t.kind = 1 then if (regL t.text.data.toList).2.2 = true then .error 20 else .ok (⟨[(t.text, 1)], 0⟩, r)
    else if t.kind = 2 then .ok (⟨[], t.num⟩, r)
    else if isS t 40 = true then match o with
      | none => .error 21
      | some f => match f r with
        | .error e => .error e
        | .ok (x, r') => match r' with
          | [] => .error 20
          | t' :: r'' => if isS t' 41 = true then .ok (x, r'') else .error 20
    else .error 20
/-- A factor behind its signs: 'b', is it to be turned. -/
def facS (o : Option (List Tok → PRes)) (b : Bool) (ts : List Tok) : PRes :=
  match facH o ts with
  | .error e => .error e
  | .ok (x, r) => .ok (negB b x, r)
def facN (o : Option (List Tok → PRes)) : Bool → List Tok → PRes
  | b, [] => facS o b []
  | b, t :: r => if isS t 45 = true then facN o (!b) r else facS o b (t :: r)
def facG (o : Option (List Tok → PRes)) (ts : List Tok) : PRes := facN o false ts
def partL (fac : List Tok → PRes) : Nat → Lin → List Tok → PRes
  | 0, x, r => .ok (x, r)
  | n + 1, x, r => match r with
    | [] => .ok (x, [])
    | t :: r' => if isS t 42 = true then match fac r' with
        | .error e => .error e
        | .ok (y, r'') => if x.terms ≠ [] ∧ y.terms ≠ [] then .error 21 else if y.terms ≠ [] then partL fac n (linT y x.num) r'' else partL fac n (linT x y.num) r''
      else .ok (x, t :: r')
def partG (fac : List Tok → PRes) (ts : List Tok) : PRes :=
  match fac ts with
  | .error e => .error e
  | .ok (x, r) => partL fac r.length x r
def sumL (part : List Tok → PRes) : Nat → Lin → List Tok → PRes
  | 0, x, r => .ok (x, r)
  | n + 1, x, r => match r with
    | [] => .ok (x, [])
    | t :: r' => if isS t 43 = true then match part r' with
        | .error e => .error e
        | .ok (y, r'') => sumL part n (linA x y) r''
      else if isS t 45 = true then match part r' with
        | .error e => .error e
        | .ok (y, r'') => sumL part n (linA x (linT y 4294967295)) r''
      else .ok (x, t :: r')
def sumG (part : List Tok → PRes) (ts : List Tok) : PRes :=
  match part ts with
  | .error e => .error e
  | .ok (x, r) => sumL part r.length x r
def sumD : Nat → List Tok → PRes
  | 0 => sumG (partG (facG none))
  | k + 1 => sumG (partG (facG (some (sumD k))))
def lowD : Nat → Option (List Tok → PRes)
  | 0 => none
  | k + 1 => some (sumD k)
theorem sumD_eq (k : Nat) : sumD k = sumG (partG (facG (lowD k))) := by cases k <;> rfl
/-- An expression, or why it is none. -/
def parseX (ts : List Tok) : Except Nat Lin :=
  match sumD 32 ts with
  | .error e => .error e
  | .ok (x, r) => if r = [] then .ok x else .error 20
/-- What is right of a Lin. -/
structure Good (x : Lin) : Prop where
  nf : Nf x.terms
  legal : ∀ t, t ∈ x.terms → legalL t.1.data.toList = true
  num : x.num < 4294967296
theorem legal_size {s : ByteArray} (h : legalL s.data.toList = true) : s.size ≤ 32 := by
  unfold legalL at h
  simp only [Bool.and_eq_true, decide_eq_true_eq] at h
  have : s.data.toList.length = s.size := by simp
  omega
theorem Good.size {x : Lin} (g : Good x) : ∀ t, t ∈ x.terms → t.1.size ≤ maxLen := fun t ht => by
  have := legal_size (g.legal t ht)
  unfold maxLen; omega
theorem Good.z : Good linZ := ⟨Nf.nil, by simp [linZ], by simp [linZ]⟩
theorem Good.T {x : Lin} (g : Good x) (n : Nat) : Good (linT x n) :=
  ⟨timesN_nf g.nf, fun t ht => by obtain ⟨p, hp, e⟩ := mem_timesN ht; rw [← e]; exact g.legal p hp, Nat.mod_lt _ (by decide)⟩
theorem Good.A {x y : Lin} (g : Good x) (k : Good y) : Good (linA x y) :=
  ⟨addM_nf g.nf k.nf, fun t ht => by
    rcases mem_addM ht with ⟨p, hp, e⟩ | ⟨p, hp, e⟩
    · rw [← e]; exact g.legal p hp
    · rw [← e]; exact k.legal p hp, Nat.mod_lt _ (by decide)⟩
theorem Good.neg {x : Lin} (g : Good x) (b : Bool) : Good (negB b x) := by
  unfold negB
  split
  · exact g.T _
  · exact g
theorem timesN_one {l : Tms} (h : Nf l) : timesN 1 l = l :=
  Nf.uniq (timesN_nf h) h fun s => by rw [cf_timesN, Nat.mul_one]
theorem linT_one {x : Lin} (g : Good x) : linT x 1 = x := by
  unfold linT
  rw [timesN_one g.nf, Nat.mul_one, Nat.mod_eq_of_lt g.num]
/-- A token as the lexer hands it on. -/
structure WfT (t : Tok) : Prop where
  num : t.num < 4294967296
  name : t.kind = 1 → t.num = 0 ∧ legalL t.text.data.toList = !(regL t.text.data.toList).2.2
def Wf (ts : List Tok) : Prop := ∀ t, t ∈ ts → WfT t
theorem Wf.suffix {r ts : List Tok} (w : Wf ts) (h : r <:+ ts) : Wf r := fun t ht => w t (h.subset ht)
theorem Wf.tail {t : Tok} {r : List Tok} (w : Wf (t :: r)) : Wf r := fun u hu => w u (List.mem_cons_of_mem _ hu)
def Fine (ts : List Tok) : PRes → Prop
  | .error e => e = 20 ∨ e = 21
  | .ok (x, r) => Good x ∧ r <:+ ts ∧ r.length < ts.length ∧ x.terms.length + r.length ≤ ts.length
theorem good_named {s : ByteArray} (h : legalL s.data.toList = true) : Good ⟨[(s, 1)], 0⟩ :=
  ⟨⟨by simp, by simp⟩, by simpa using h, by simp⟩
theorem facH_fine {o : Option (List Tok → PRes)} (ho : ∀ f, o = some f → ∀ ts, Wf ts → Fine ts (f ts)) {ts : List Tok} (w : Wf ts) : Fine ts (facH o ts) := by
  unfold facH
  cases ts with
  | nil => exact .inl rfl
  | cons t r =>
    simp only
    split
    · rename_i h1
      split
      · exact .inl rfl
      · rename_i h2
        have h3 := ((w t (List.mem_cons_self ..)).name h1).2
        rw [Bool.not_eq_true] at h2
        rw [h2] at h3
        exact ⟨good_named h3, List.suffix_cons _ _, by simp, by simp; omega⟩
    · split
      · exact ⟨⟨Nf.nil, by simp, (w t (List.mem_cons_self ..)).num⟩, List.suffix_cons _ _, by simp, by simp⟩
      · split
        · cases o with
          | none => exact .inr rfl
          | some f =>
            simp only
            have hf := ho f rfl r w.tail
            revert hf
            cases f r with
            | error e => exact id
            | ok q =>
              obtain ⟨x, r'⟩ := q
              rintro ⟨g, s, l, n⟩
              simp only
              cases r' with
              | nil => exact .inl rfl
              | cons t' r'' =>
                simp only
                split
                · refine ⟨g, ((List.suffix_cons _ _).trans s).trans (List.suffix_cons _ _), ?_, ?_⟩
                  · simp only [List.length_cons] at l ⊢; omega
                  · simp only [List.length_cons] at n ⊢; omega
                · exact .inl rfl
        · exact .inl rfl
theorem negB_length (b : Bool) (x : Lin) : (negB b x).terms.length ≤ x.terms.length := by
  unfold negB
  split
  · exact timesN_length _ _
  · exact Nat.le_refl _
theorem facS_fine {o : Option (List Tok → PRes)} (ho : ∀ f, o = some f → ∀ ts, Wf ts → Fine ts (f ts)) {ts : List Tok} (w : Wf ts) (b : Bool) : Fine ts (facS o b ts) := by
  unfold facS
  have := facH_fine ho w
  revert this
  cases facH o ts with
  | error e => exact id
  | ok q =>
    obtain ⟨x, r⟩ := q
    rintro ⟨g, s, l, n⟩
    have := negB_length b x
    exact ⟨g.neg b, s, l, by omega⟩
theorem Fine.cons {t : Tok} {r : List Tok} {q : PRes} (h : Fine r q) : Fine (t :: r) q := by
  cases q with
  | error e => exact h
  | ok q =>
    obtain ⟨g, s, l, n⟩ := h
    exact ⟨g, s.trans (List.suffix_cons _ _), by simp only [List.length_cons]; omega, by simp only [List.length_cons]; omega⟩
theorem facN_fine {o : Option (List Tok → PRes)} (ho : ∀ f, o = some f → ∀ ts, Wf ts → Fine ts (f ts)) : ∀ {ts : List Tok} (b : Bool), Wf ts → Fine ts (facN o b ts)
  | [], b, w => by unfold facN; exact facS_fine ho w b
  | t :: r, b, w => by
    unfold facN
    split
    · exact (facN_fine ho _ w.tail).cons
    · exact facS_fine ho w b
theorem facG_fine {o : Option (List Tok → PRes)} (ho : ∀ f, o = some f → ∀ ts, Wf ts → Fine ts (f ts)) (ts : List Tok) (w : Wf ts) : Fine ts (facG o ts) := facN_fine ho _ w
/-- What a loop may come to. -/
def FineL (m : Nat) (ts : List Tok) : PRes → Prop
  | .error e => e = 20 ∨ e = 21
  | .ok (x, r) => Good x ∧ r <:+ ts ∧ x.terms.length + r.length ≤ m
theorem partL_fine {fac : List Tok → PRes} (hf : ∀ ts, Wf ts → Fine ts (fac ts)) : ∀ (n : Nat) {x : Lin} {r : List Tok}, Good x → Wf r → FineL (x.terms.length + r.length) r (partL fac n x r)
  | 0, x, r, g, w => ⟨g, List.suffix_refl _, Nat.le_refl _⟩
  | n + 1, x, [], g, w => ⟨g, List.suffix_refl _, Nat.le_refl _⟩
  | n + 1, x, t :: r', g, w => by
    unfold partL
    simp only
    split
    · have h1 := hf r' w.tail
      revert h1
      cases fac r' with
      | error e => exact id
      | ok q =>
        obtain ⟨y, r''⟩ := q
        rintro ⟨k, s, l, n1⟩
        simp only
        have hs := s.trans (List.suffix_cons t _)
        split
        · exact .inr rfl
        · split
          · have h2 := partL_fine hf n (k.T x.num) (w.suffix hs)
            revert h2
            have := timesN_length x.num y.terms
            cases partL fac n (linT y x.num) r'' with
            | error e => exact id
            | ok q =>
              rintro ⟨a, b, c⟩
              refine ⟨a, b.trans hs, ?_⟩
              simp only [linT, List.length_cons] at c ⊢
              omega
          · have h2 := partL_fine hf n (g.T y.num) (w.suffix hs)
            revert h2
            have := timesN_length y.num x.terms
            cases partL fac n (linT x y.num) r'' with
            | error e => exact id
            | ok q =>
              rintro ⟨a, b, c⟩
              refine ⟨a, b.trans hs, ?_⟩
              simp only [linT, List.length_cons] at c ⊢
              omega
    · exact ⟨g, List.suffix_refl _, Nat.le_refl _⟩
theorem partG_fine {fac : List Tok → PRes} (hf : ∀ ts, Wf ts → Fine ts (fac ts)) (ts : List Tok) (w : Wf ts) : Fine ts (partG fac ts) := by
  unfold partG
  have h1 := hf ts w
  revert h1
  cases fac ts with
  | error e => exact id
  | ok q =>
    obtain ⟨x, r⟩ := q
    rintro ⟨g, s, l, n⟩
    have h2 := partL_fine hf r.length g (w.suffix s)
    revert h2
    simp only
    cases partL fac r.length x r with
    | error e => exact id
    | ok q =>
      rintro ⟨a, b, c⟩
      exact ⟨a, b.trans s, by have := b.length_le; omega, by omega⟩
theorem sumL_fine {part : List Tok → PRes} (hf : ∀ ts, Wf ts → Fine ts (part ts)) : ∀ (n : Nat) {x : Lin} {r : List Tok}, Good x → Wf r → FineL (x.terms.length + r.length) r (sumL part n x r)
  | 0, x, r, g, w => ⟨g, List.suffix_refl _, Nat.le_refl _⟩
  | n + 1, x, [], g, w => ⟨g, List.suffix_refl _, Nat.le_refl _⟩
  | n + 1, x, t :: r', g, w => by
    unfold sumL
    simp only
    split
    · have h1 := hf r' w.tail
      revert h1
      cases part r' with
      | error e => exact id
      | ok q =>
        obtain ⟨y, r''⟩ := q
        rintro ⟨k, s, l, n1⟩
        simp only
        have hs := s.trans (List.suffix_cons t _)
        have h2 := sumL_fine hf n (g.A k) (w.suffix hs)
        revert h2
        have := addM_length x.terms y.terms
        cases sumL part n (linA x y) r'' with
        | error e => exact id
        | ok q =>
          rintro ⟨a, b, c⟩
          refine ⟨a, b.trans hs, ?_⟩
          simp only [linA, List.length_cons] at c ⊢
          omega
    · split
      · have h1 := hf r' w.tail
        revert h1
        cases part r' with
        | error e => exact id
        | ok q =>
          obtain ⟨y, r''⟩ := q
          rintro ⟨k, s, l, n1⟩
          simp only
          have hs := s.trans (List.suffix_cons t _)
          have h2 := sumL_fine hf n (g.A (k.T 4294967295)) (w.suffix hs)
          revert h2
          have := addM_length x.terms (timesN 4294967295 y.terms)
          have := timesN_length 4294967295 y.terms
          cases sumL part n (linA x (linT y 4294967295)) r'' with
          | error e => exact id
          | ok q =>
            rintro ⟨a, b, c⟩
            refine ⟨a, b.trans hs, ?_⟩
            simp only [linA, linT, List.length_cons] at c ⊢
            omega
      · exact ⟨g, List.suffix_refl _, Nat.le_refl _⟩
theorem sumG_fine {part : List Tok → PRes} (hf : ∀ ts, Wf ts → Fine ts (part ts)) (ts : List Tok) (w : Wf ts) : Fine ts (sumG part ts) := by
  unfold sumG
  have h1 := hf ts w
  revert h1
  cases part ts with
  | error e => exact id
  | ok q =>
    obtain ⟨x, r⟩ := q
    rintro ⟨g, s, l, n⟩
    have h2 := sumL_fine hf r.length g (w.suffix s)
    revert h2
    simp only
    cases sumL part r.length x r with
    | error e => exact id
    | ok q =>
      rintro ⟨a, b, c⟩
      exact ⟨a, b.trans s, by have := b.length_le; omega, by omega⟩
theorem sumD_fine : ∀ (k : Nat) (ts : List Tok), Wf ts → Fine ts (sumD k ts)
  | 0, ts, w => sumG_fine (partG_fine (facG_fine (by intro f hf; cases hf))) ts w
  | k + 1, ts, w => sumG_fine (partG_fine (facG_fine (by rintro f hf; cases hf; exact sumD_fine k))) ts w
theorem lowD_fine (k : Nat) : ∀ f, lowD k = some f → ∀ ts, Wf ts → Fine ts (f ts) := by
  intro f hf
  cases k with
  | zero => cases hf
  | succ k => cases hf; exact sumD_fine k
end Go.Sx

set_option linter.unusedVariables false
set_option linter.unusedSimpArgs false
set_option maxRecDepth 100000
namespace Go.Sx
open Go.Proofs
/-- The parser's cell: the tokens that are left, the depth, the refusal. -/
def PB (h : Hp) (A : Nat) (ts : List Tok) (d : Int) (e : Nat) : Prop :=
  ∃ p l c, Box h A 118 [.slice p l c, .int .i64 d, .int .i64 (e : Int)] ∧ Vw h p l c ts ∧ ∀ i, i ∈ blkOf p → i < A
theorem PB.keep {ws : List Nat} {h h' : Hp} {A : Nat} {ts : List Tok} {d : Int} {e : Nat} (b : PB h A ts d e) (k : Ch ws h h') (hw : ∀ i, i ∈ ws → A < i) : PB h' A ts d e := by
  obtain ⟨p, l, c, b, v, hp⟩ := b
  exact ⟨p, l, c, b.keep k (fun hm => by have := hw _ hm; omega), v.keep k (fun i hi hm => by have := hw _ hm; have := hp _ hi; omega), hp⟩
theorem PB.lt {h : Hp} {A : Nat} {ts : List Tok} {d : Int} {e : Nat} (b : PB h A ts d e) : A < h.size := by
  obtain ⟨p, l, c, b, v, hp⟩ := b
  exact b.lt
abbrev ptr (a : Nat) : Value := .pointer (some ⟨a, 0, none⟩)
/-- What the closures hold. -/
structure Cl (h : Hp) (A a3 a4 a5 a6 : Nat) : Prop where
  b3 : Box h a3 116 [ptr A]
  b4 : Box h a4 119 [.func (.func 82) #[] #[ptr a6, ptr a3]]
  b5 : Box h a5 119 [.func (.func 78) #[] #[ptr a3, ptr a4]]
  b6 : Box h a6 119 [.func (.func 81) #[] #[ptr a5, ptr a3]]
  n3 : A < a3
  n4 : A < a4
  n5 : A < a5
  n6 : A < a6
theorem Cl.lt {h : Hp} {A a3 a4 a5 a6 : Nat} (c : Cl h A a3 a4 a5 a6) : a3 < h.size ∧ a4 < h.size ∧ a5 < h.size ∧ a6 < h.size := ⟨c.b3.lt, c.b4.lt, c.b5.lt, c.b6.lt⟩
theorem Cl.keep {ws : List Nat} {h h' : Hp} {A a3 a4 a5 a6 : Nat} (c : Cl h A a3 a4 a5 a6) (k : Ch ws h h') (hw : ∀ i, i ∈ ws → i = A ∨ h.size ≤ i) : Cl h' A a3 a4 a5 a6 := by
  have h3 := c.b3.lt
  have h4 := c.b4.lt
  have h5 := c.b5.lt
  have h6 := c.b6.lt
  have := c.n3
  have := c.n4
  have := c.n5
  have := c.n6
  exact ⟨c.b3.keep k (fun hm => by have := hw _ hm; omega), c.b4.keep k (fun hm => by have := hw _ hm; omega), c.b5.keep k (fun hm => by have := hw _ hm; omega), c.b6.keep k (fun hm => by have := hw _ hm; omega), by omega, by omega, by omega, by omega⟩
def signB (e : Nat) (ts : List Tok) (c : UInt8) : Bool := decide (e = 0) && match ts with
  | [] => false
  | t :: _ => isS t c
theorem tok_cells {h : Hp} {a : Addr} {t : Tok} (hc : cellsAt h (a.add (0 * 4)) 0 (enc t)) : cellsAt h a 0 [.int .i64 (t.kind : Int)] ∧ cellsAt h (a.add 1) 0 [.string t.text] ∧ cellsAt h a 0 (enc t) := by
  rw [show a.add (0 * 4) = a by simp [Addr.add]] at hc
  obtain ⟨h1, h2, h3⟩ := hc
  exact ⟨⟨h1, trivial⟩, ⟨by rw [add_add]; exact h2, trivial⟩, h1, h2, h3⟩
theorem sign79_hc {h : Hp} {A : Nat} {ts : List Tok} {d : Int} {e : Nat} (b : PB h A ts d e) (c : UInt8) :
    HC Tryd.prog 79 #[ptr A, .string ⟨#[c]⟩] h fun v h' => v = .bool (signB e ts c) ∧ Ch [A] h h' ∧ h'.size = h.size ∧ PB h' A (if signB e ts c = true then ts.tail else ts) d e := by
  obtain ⟨p, l, cc, b, v, hp⟩ := b
  refine hcr_of (args := [ptr A, .string ⟨#[c]⟩]) mixed Tryd.func79 (by kernel_rfl) (t_expr_parser__sign_eq (some ⟨A, 0, none⟩) ⟨#[c]⟩) ?_
  have no : signB e ts c = false → T.ret (.bool false) [] (fun v h' => v = .bool (signB e ts c) ∧ Ch [A] h h' ∧ h'.size = h.size ∧ PB h' A (if signB e ts c = true then ts.tail else ts) d e) h := by
    intro hn
    refine ⟨by rw [hn], Ch.refl _ _, rfl, ?_⟩
    rw [if_neg (by rw [hn]; simp)]
    exact ⟨p, l, cc, b, v, hp⟩
  unfold t_expr_parser__sign
  refine osome_mk rfl ?_
  rw [add_box]
  refine loads_box b ((e : Int), ()) rfl ?_
  dsimp only [flat, unc, unc1, List.nil_append, List.cons_append]
  have hlen := v.len
  have hcap := v.cap
  refine cond_mk (fun g1 => ?_) (fun g1 => ?_)
  · have g1 : ¬ e = 0 := by simpa using g1
    refine no ?_
    unfold signB
    rw [decide_eq_false g1]
    rfl
  · have g1 : e = 0 := by simpa using g1
    subst g1
    refine osome_mk rfl (loads_box b ((p, l, cc), ()) rfl ?_)
    dsimp only [flat, unc, unc1, List.nil_append, List.cons_append]
    refine cond_mk (fun g2 => ?_) (fun g2 => ?_)
    · have g2 : l = 0 := by simpa using g2
      have : ts = [] := List.length_eq_zero_iff.1 (by omega)
      subst this
      exact no rfl
    · have g2 : ¬ l = 0 := by simpa using g2
      cases ts with
      | nil => simp at hlen; omega
      | cons t r =>
        obtain ⟨a, rfl, hc⟩ := v.cells 0 (by simp)
        obtain ⟨c1, c2, c3⟩ := tok_cells (t := t) hc
        refine osome_mk rfl (loads_box b ((some a, l, cc), ()) rfl ?_)
        dsimp only [flat, unc, unc1, List.nil_append, List.cons_append]
        refine need_of ⟨by omega, by omega⟩ (osome_mk rfl (loads_of ((t.kind : Int), ()) c1 ?_))
        dsimp only [flat, unc, unc1, List.nil_append, List.cons_append]
        refine cond_mk (fun g3 => ?_) (fun g3 => ?_)
        · have g3 : ¬ (t.kind : Int) = 3 := by simpa using g3
          refine no ?_
          have g4 : ¬ t.kind = 3 := by omega
          simp [signB, isS, g4]
        · have g3 : (t.kind : Int) = 3 := by simpa using g3
          refine osome_mk rfl (loads_box b ((some a, l, cc), ()) rfl ?_)
          dsimp only [flat, unc, unc1, List.nil_append, List.cons_append]
          refine need_of ⟨by omega, by omega⟩ (osome_mk rfl (loads_of (t.text, ()) c2 ?_))
          dsimp only [flat, unc, unc1, List.nil_append, List.cons_append]
          have e0 : signB 0 (t :: r) c = (ByteArray.toList t.text == ByteArray.toList ⟨#[c]⟩) := by
            show (true && isS t c) = _
            rw [← isS_val, g3]
            rfl
          refine cond_mk (fun g4 => ?_) (fun g4 => ?_)
          · refine no ?_
            rw [e0]
            simpa using g4
          · have g4 : signB 0 (t :: r) c = true := by
              rw [e0]
              simpa using g4
            refine osome_mk rfl (loads_box b ((some a, l, cc), ()) rfl ?_)
            dsimp only [flat, unc, unc1, List.nil_append, List.cons_append]
            refine need_of ⟨by omega, by omega, by omega⟩ (osome_mk rfl ?_)
            refine stores_of b rfl (by simp) ?_
            intro h1 b1 k1 z1
            rw [g4]
            refine ⟨rfl, k1, z1, ?_⟩
            rw [if_pos rfl]
            refine ⟨_, _, _, b1, ((v.drop (k := 1) (by omega)).keep k1 ?_), ?_⟩
            · intro i hi hm
              rw [blkOf_if] at hi
              rw [List.mem_singleton] at hm
              have := hp _ hi
              omega
            · intro i hi
              exact hp _ (by have := blkOf_if (some a) cc 1 4; rw [← this]; exact hi)
theorem refuse80_hc {h : Hp} {A : Nat} {ts : List Tok} {d : Int} {e : Nat} (b : PB h A ts d e) (w : Nat) :
    HC Tryd.prog 80 #[ptr A, .int .i64 (w : Int)] h fun v h' => v = .tuple #[] ∧ Ch [A] h h' ∧ h'.size = h.size ∧ PB h' A ts d (if e = 0 then w else e) := by
  obtain ⟨p, l, cc, b, v, hp⟩ := b
  refine hcr_of (args := [ptr A, .int .i64 (w : Int)]) mixed Tryd.func80 (by kernel_rfl) (t_expr_parser__refuse_eq (some ⟨A, 0, none⟩) w) ?_
  unfold t_expr_parser__refuse
  refine osome_mk rfl ?_
  rw [add_box]
  refine loads_box b ((e : Int), ()) rfl ?_
  dsimp only [flat, unc, unc1, List.nil_append, List.cons_append]
  refine cond_mk (fun g1 => ?_) (fun g1 => ?_)
  · have g1 : e = 0 := by simpa using g1
    refine osome_mk rfl ?_
    rw [add_box]
    refine stores_of b rfl (by simp) ?_
    intro h1 b1 k1 z1
    refine ⟨rfl, k1, z1, p, l, cc, ?_, v.keep k1 ?_, hp⟩
    · rw [if_pos g1]; exact b1
    · intro i hi hm
      rw [List.mem_singleton] at hm
      have := hp _ hi
      omega
  · have g1 : ¬ e = 0 := by simpa using g1
    exact ⟨rfl, Ch.refl _ _, rfl, p, l, cc, by rw [if_neg g1]; exact b, v, hp⟩
theorem named_hc (s : ByteArray) (h : Hp) : HC Tryd.prog 56 #[.string s] h fun w h' => Ext h h' ∧ ∃ p l c, w = linV p l c ⟨[(s, 1)], 0⟩ ∧ SL h' h.size 80 2 p l c ([(s, 1)].map encT) := by
  refine hcr_of (args := [.string s]) mixed Tryd.func56 (by kernel_rfl) (t_expr_Named_eq s) ?_
  unfold t_expr_Named
  refine newB ?_
  intro h1 b1 e1 z1
  refine lit_of (cells := [.string s, .int .u32 1]) und67 termZ (by decide) (by decide) (by kernel_rfl) ?_
  intro h2 b2 e2 z2
  refine stores_of (b1.keep e2 (by simp)) rfl (by simp) ?_
  intro h3 b3 k3 z3
  have b3 : Box h3 h.size 69 [.slice (some ⟨h1.size, 0, none⟩) 1 1, .int .u32 0] := b3
  refine loads_box b3 ((some ⟨h1.size, 0, none⟩, 1, 1), (0 : Int), ()) rfl ?_
  refine ⟨Ch.trans (e1.trans e2) k3 (fun j hj hl => by simp at hj; omega), some ⟨h1.size, 0, none⟩, 1, 1, rfl, rfl, by simp [encT], h1.size, [], [], rfl, by omega, by omega, ?_, rfl⟩
  exact b2.keep k3 (by simp; omega)
theorem of62_hc (n : Int) (h : Hp) : HC Tryd.prog 62 #[.int .u32 n] h fun w h' => Ext h h' ∧ w = .agg #[.slice none 0 0, .int .u32 n] := by
  refine hcr_of (args := [.int .u32 n]) mixed Tryd.func62 (by kernel_rfl) (t_expr_Of_eq n) ?_
  unfold t_expr_Of
  refine newB ?_
  intro h1 b1 e1 z1
  refine stores_of b1 rfl (by simp) ?_
  intro h3 b3 k3 z3
  have b3 : Box h3 h.size 69 [.slice none 0 0, .int .u32 n] := b3
  refine loads_box b3 ((none, 0, 0), n, ()) rfl ?_
  exact ⟨Ch.trans e1 k3 (fun j hj hl => by simp at hj; omega), rfl⟩
end Go.Sx
