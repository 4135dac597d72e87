/- Contracts over heaps, and plain laws, for the functions that the laws of chapter 11 call, part 4: equ.numbers and equ.put over heaps. equ.turning in plain Lean: the walk that numbers names and finds those that come back. The walk of equ.turning marks just the names that lie on a cycle. What Solve makes, in plain words: where no name lies on a cycle, each name's expression with the names' solutions in it. Condition: as each statement says. -/
import Derived.Test.YtpbjlnlekobodaaP3
set_option linter.unusedVariables false
set_option linter.unusedSimpArgs false
set_option linter.deprecated false
set_option maxRecDepth 100000
namespace Go.Sx
open Go.Proofs
/-- An equ in memory. -/
structure EqM where
  name : ByteArray
  p : Option Addr
  l : Nat
  c : Nat
  x : Lin
def eqV (e : EqM) : List Value := [.string e.name, .slice e.p e.l e.c, .int .u32 e.x.num]
structure VwE (h : Hp) (p : Option Addr) (l : Nat) (es : List EqM) : Prop where
  len : l = es.length
  cells : ∀ i, (hi : i < es.length) → ∃ a, p = some a ∧ cellsAt h (a.add (i * 3)) 0 (eqV es[i])
  inn : ∀ e, e ∈ es → VwT h e.p e.l e.x.terms
theorem VwE.keep {h h' : Hp} {p : Option Addr} {l : Nat} {es : List EqM} (v : VwE h p l es) (k : Ext h h') : VwE h' p l es :=
  ⟨v.len, fun i hi => by
    obtain ⟨a, ha, hc⟩ := v.cells i hi
    exact ⟨a, ha, cellsAt_keep k (by simp) _ _ hc⟩, fun e he => (v.inn e he).keep k (by simp)⟩
/-- A name's place. -/
def plc (es : List EqM) (s : ByteArray) : Option Nat := es.findIdx? fun e => decide (e.name = s)
theorem plc_snoc {es : List EqM} {e : EqM} (hn : ∀ d, d ∈ es → d.name ≠ e.name) (s : ByteArray) : plc (es ++ [e]) s = fset (plc es) e.name es.length s := by
  unfold plc fset
  rw [List.findIdx?_append]
  by_cases h : s = e.name
  · subst h
    have : es.findIdx? (fun d => decide (d.name = e.name)) = none := by
      rw [List.findIdx?_eq_none_iff]
      intro d hd
      simpa using hn d hd
    rw [this]
    simp [List.findIdx?_cons]
  · have : ¬ e.name = s := fun k => h k.symm
    rw [if_neg h]
    cases hh : es.findIdx? (fun d => decide (d.name = s)) with
    | none => show _ = List.findIdx? _ es; rw [hh]; simp [List.findIdx?_cons, this]
    | some k => show _ = List.findIdx? _ es; rw [hh]; simp
theorem plc_none {es : List EqM} {s : ByteArray} (h : ∀ d, d ∈ es → d.name ≠ s) : plc es s = none := by
  unfold plc
  rw [List.findIdx?_eq_none_iff]
  intro d hd
  simpa using h d hd
theorem numbers_hc {h : Hp} {p : Option Addr} {l c : Nat} {es : List EqM} (v : VwE h p l es) (hl : es.length ≤ 2 ^ 40) (hn : (es.map (·.name)).Nodup) (hs : ∀ e, e ∈ es → e.name.size ≤ maxLen) :
    HC Try.prog 26 #[.slice p l c] h fun w h' => (∃ g, w = .map (some g) ∧ MapF eI h' g (plc es) es.length ∧ h.size ≤ g) ∧ Ext h h' := by
  refine hcr_of (args := [.slice p l c]) mixed Try.func26 (by kernel_rfl) (t_equ_numbers_eq p l c) ?_
  unfold t_equ_numbers
  refine makeF (en := eI) ?_
  intro h1 m1 e1 z1
  have hll := v.len
  refine loop_of (cs := [(false, [.int .i64])]) (fun x w h' => ∃ i : Nat, x.1 = (i : Int) ∧ i ≤ es.length ∧ w = es.length - i ∧ MapF eI h' h.size (plc (es.take i)) i ∧ Ext h h') ((0 : Int), ()) es.length rfl ⟨0, rfl, by omega, by omega, m1, e1⟩ ?_
  rintro ⟨n2, ⟨⟩⟩ w h2 ⟨i, hi, hile, rfl, m2, e2⟩
  simp only at hi
  subst hi
  dsimp only [flat, unc, unc1, List.nil_append, List.cons_append]
  refine cond_mk (fun g1 => ?_) (fun g1 => ?_)
  · have g1 := of_decide_eq_true g1
    have hilt : i < es.length := by omega
    obtain ⟨a, rfl, hc⟩ := (v.keep e2).cells i hilt
    have htk : es.take (i + 1) = es.take i ++ [es[i]] := List.take_succ_eq_append_getElem hilt
    have hsz := hs es[i] (List.getElem_mem hilt)
    have hnd : ∀ d, d ∈ es.take i → d.name ≠ es[i].name := by
      intro d hd he
      obtain ⟨j, hj, rfl⟩ := List.getElem_of_mem hd
      rw [List.length_take] at hj
      rw [List.getElem_take] at he
      exact List.pairwise_iff_getElem.1 hn j i (by rw [List.length_map]; omega) (by rw [List.length_map]; omega) (by omega) (by simpa using he)
    generalize es[i] = e at hc htk hsz hnd
    refine need_of ⟨by omega, by omega⟩ (osome_mk rfl ?_)
    rw [show Int.toNat (i : Int) = i by omega]
    refine loads_of (e.name, (e.p, e.l, e.c), (e.x.num : Int), ()) hc ?_
    dsimp only [flat, unc, unc1, List.nil_append, List.cons_append]
    refine newB ?_
    intro h3 b3 e3 z3
    refine stores_of b3 rfl (by simp) ?_
    intro h4 b4 k4 z4
    have b4 : Box h4 h2.size 38 [.string e.name, .slice e.p e.l e.c, .int .u32 e.x.num] := b4
    have e24 : Ext h2 h4 := Ch.trans e3 k4 (fun j hj hl => by simp at hj; omega)
    refine loads_box b4 (e.name, ()) rfl ?_
    dsimp only [flat, unc, unc1, List.nil_append, List.cons_append]
    refine putI (w := i) (m2.keep e24 (by simp)) hsz rfl ?_
    intro h5 m5 k5 z5
    have hw : IntKind.wrap .i64 ((i : Int) + 1) = ((i + 1 : Nat) : Int) := by rw [wrap_i64 (by omega) (by omega)]; omega
    have hf : plc (es.take (i + 1)) = fset (plc (es.take i)) e.name i := by
      rw [htk]
      funext s
      rw [plc_snoc hnd, List.length_take, Nat.min_eq_left (by omega)]
    rw [plc_none hnd] at m5
    refine again_mk (cs := [(false, [.int .i64])]) (((i + 1 : Nat) : Int), ()) (es.length - (i + 1)) rfl (by omega) (congrArg (fun z => [Value.int .i64 z]) hw) ⟨i + 1, rfl, by omega, rfl, by rw [hf]; exact m5, Ch.trans (e2.trans e24) k5 (fun j hj hl => by simp at hj; omega)⟩
  · have g1 := of_decide_eq_false g1
    have hi : i = es.length := by omega
    subst hi
    rw [List.take_length] at m2
    exact ⟨⟨_, rfl, m2, Nat.le_refl _⟩, e2⟩
/-- What a sum is where names are replaced, once. -/
def xpd (of : ByteArray → Option Lin) (t : ByteArray × Nat) : Tms := match of t.1 with
  | none => [t]
  | some y => y.terms.map fun u => (u.1, t.2 * u.2 % 4294967296)
def xnum (of : ByteArray → Option Lin) (n : Nat) (t : ByteArray × Nat) : Nat := match of t.1 with
  | none => n
  | some y => (n + t.2 * y.num % 4294967296) % 4294967296
def putS (of : ByteArray → Option Lin) (x : Lin) : Lin := ⟨nrm (x.terms.flatMap (xpd of)), x.terms.foldl (xnum of) x.num⟩
/-- A Lin in memory. -/
structure LinM where
  p : Option Addr
  l : Nat
  c : Nat
  x : Lin
def eL (y : LinM) : Value := linV y.p y.l y.c y.x
structure MapL (h : Hp) (g : Nat) (f : ByteArray → Option LinM) (n : Nat) : Prop where
  map : MapF eL h g f n
  inn : ∀ s y, f s = some y → VwT h y.p y.l y.x.terms
theorem MapL.keep {ws : List Nat} {h h' : Hp} {g : Nat} {f : ByteArray → Option LinM} {n : Nat} (m : MapL h g f n) (k : Ch ws h h') (hw : g ∉ ws) (hi : ∀ s y, f s = some y → ∀ i, i ∈ blkOf y.p → i ∉ ws) : MapL h' g f n :=
  ⟨m.map.keep k hw, fun s y hy => (m.inn s y hy).keep k (hi s y hy)⟩
theorem undM : Try.prog.underlying 67 = some (.map 9 36) := by kernel_rfl
theorem infoM : (Try.prog.info? 36).bind (·.zero) = some (.agg #[.slice none 0 0, .int .u32 0]) := by kernel_rfl
theorem lookL {L : Lp} {K : Value → Hp → Prop} {h : Hp} {g n : Nat} {f : ByteArray → Option LinM} (m : MapF eL h g f n) (s : ByteArray) {k : Option Addr → Nat → Nat → Int → Bool → T} (h1 : ∀ y, f s = some y → k y.p y.l y.c (y.x.num : Int) true L K h) (h0 : f s = none → k none 0 0 0 false L K h) :
    T.sem Try.prog (Instr.lookup 67 (.map (some g)) (.string s) true) true [(true, [.slice 40, .int .u32]), (false, [.bool])] k L K h := by
  obtain ⟨D, m, hD, hn⟩ := m
  refine lookup_of undM und9 infoM m s true _ ?_
  rw [if_pos rfl, look_vE, hD s]
  cases hf : f s with
  | none => exact ⟨((none, 0, 0), (0 : Int), false, ()), rfl, h0 hf⟩
  | some y => exact ⟨((y.p, y.l, y.c), (y.x.num : Int), true, ()), rfl, h1 y hf⟩
theorem putLin {L : Lp} {K : Value → Hp → Prop} {h : Hp} {g n : Nat} {f : ByteArray → Option LinM} (m : MapF eL h g f n) {s : ByteArray} (hs : s.size ≤ maxLen) (y : LinM) {k : T} (hk : ∀ h', MapF eL h' g (fset f s y) (if (f s).isSome then n else n + 1) → Ch [g] h h' → h'.size = h.size → k L K h') :
    T.semU Try.prog (Instr.mapUpdate 67 (.map (some g)) (.string s) (.agg #[.slice y.p y.l y.c, .int .u32 (y.x.num : Int)])) k L K h := by
  obtain ⟨D, m, hD, hn⟩ := m
  refine mapUpdate_of undM und9 m hs _ _ ?_
  intro h' m' c' z'
  exact hk h' (MapF.upd (en := eL) hD hn m') c' z'
/-- The loop that adds a list's terms, so many times, to a map's. -/
def mulT (r : Option Nat) (p : Option Addr) (l : Nat) (a14 : Addr) (lv : Nat) (k : T) : T :=
   T.loop [(false, [.int .i64])] [.int .i64 (0 : Int)] <| fun (n25 : Int) =>
   cond (decide (n25 < (l : Int)))
    (T.need (((0 : Int) ≤ n25) ∧ (n25 < (l : Int))) <|
    T.osome p <| fun (a26 : Addr) =>
    T.loads (a26.add ((Int.toNat n25) * 2)) [.string, .int .u32] <| fun (s27 : ByteArray) (n28 : Int) =>
    T.new [.string ⟨#[]⟩, .int .u32 (0 : Int)] 40 <| fun (a29 : Addr) =>
    T.stores a29 [.string s27, .int .u32 n28] <|
    T.loads a29 [.string] <| fun (s30 : ByteArray) =>
    T.sem Try.prog (Instr.lookup 31 (.map r) (.string s30) false) false [(false, [.int .u32])] <| fun (n31 : Int) =>
    T.loads (a14.add 1) [.int .u32] <| fun (n32 : Int) =>
    T.loads (a29.add 1) [.int .u32] <| fun (n33 : Int) =>
    T.semU Try.prog (Instr.mapUpdate 31 (.map r) (.string s30) (.int .u32 (IntKind.wrap .u32 (n31 + (IntKind.wrap .u32 (n32 * n33)))))) <|
    T.again lv [.int .i64 (IntKind.wrap .i64 (n25 + (1 : Int)))]) k
theorem mulT_of {L : Lp} {K : Value → Hp → Prop} {h : Hp} {g ga q : Nat} {nm : ByteArray} {p : Option Addr} {l : Nat} {us D : Tms} {k : T} {lv : Nat} (hlv : L.length = lv) (v : VwT h p l us) (hl : us.length ≤ 2 ^ 40) (hs : ∀ t, t ∈ us → t.1.size ≤ maxLen) (m : MapB h g (vm D)) (hg : us ≠ [] → g ∉ blkOf p)
    (ba : Box h ga 40 [.string nm, .int .u32 (q : Int)]) (hga : ga ≠ g)
    (hk : ∀ J h', MapB h' g (vm ((us.map fun u => (u.1, q * u.2 % 4294967296)).foldl addT D)) → Ch [g] h h' → k (L ++ [J]) K h') : mulT (some g) p l ⟨ga, 0, none⟩ lv k L K h := by
  have hll := v.len
  have hL : ∀ J : List Value → Hp → Prop, (L ++ [J])[lv]? = some J := by intro J; subst hlv; simp
  unfold mulT
  refine loop_of (cs := [(false, [.int .i64])]) (fun y w h' => ∃ (i : Nat), y.1 = (i : Int) ∧ i ≤ us.length ∧ w = us.length - i ∧ Ch [g] h h' ∧ MapB h' g (vm (((us.take i).map fun u => (u.1, q * u.2 % 4294967296)).foldl addT D))) ((0 : Int), ()) us.length rfl
    ⟨0, rfl, by omega, by omega, Ch.refl _ _, by simpa using m⟩ ?_
  rintro ⟨n8, ⟨⟩⟩ w h4 ⟨i, hi, hile, rfl, k4, m4⟩
  simp only at hi
  subst hi
  dsimp only [flat, unc, unc1, List.nil_append, List.cons_append]
  refine cond_mk (fun g1 => ?_) (fun g1 => ?_)
  · have g1 := of_decide_eq_true g1
    have hilt : i < us.length := by omega
    obtain ⟨a, rfl, hc⟩ := (v.keep k4 (by intro j hj hm; rw [List.mem_singleton] at hm; subst hm; exact hg (List.ne_nil_of_length_pos (by omega)) hj)).cells i hilt
    have htk : us.take (i + 1) = us.take i ++ [us[i]] := List.take_succ_eq_append_getElem hilt
    have hsz := hs us[i] (List.getElem_mem hilt)
    generalize us[i] = t at hc htk hsz
    refine need_of ⟨by omega, by omega⟩ (osome_mk rfl ?_)
    rw [show Int.toNat (i : Int) = i by omega]
    refine loads_of (t.1, (t.2 : Int), ()) hc ?_
    dsimp only [flat, unc, unc1, List.nil_append, List.cons_append]
    refine newB ?_
    intro h5 b5 e5 z5
    refine stores_of b5 rfl (by simp) ?_
    intro h6 b6 k6 z6
    have b6 : Box h6 h4.size 40 (encT t) := b6
    have e46 : Ext h4 h6 := Ch.trans e5 k6 (fun j hj hl => by simp at hj; omega)
    have m6 := m4.keep e46 (by simp)
    have a6 := (ba.keep k4 (by simpa using hga)).keep e46 (by simp)
    refine loads_box b6 (t.1, ()) rfl ?_
    dsimp only [flat, unc, unc1, List.nil_append, List.cons_append]
    refine look_of m6 _ ?_
    rw [add_box]
    refine loads_box a6 ((q : Int), ()) rfl ?_
    dsimp only [flat, unc, unc1, List.nil_append, List.cons_append]
    rw [add_box]
    refine loads_box b6 ((t.2 : Int), ()) rfl ?_
    dsimp only [flat, unc, unc1, List.nil_append, List.cons_append]
    generalize hDD : ((us.take i).map fun u => (u.1, q * u.2 % 4294967296)).foldl addT D = D' at m6
    refine put_of (n := (getN D' t.1 + q * t.2 % 4294967296) % 4294967296) m6 hsz ?_ ?_
    · rw [wrap_u32_mod, wrap_u32_mod, cast_mod, Int.natCast_add, cast_mod, Int.natCast_mul]
    · intro h7 m7 k7 z7
      have hw : IntKind.wrap .i64 ((i : Int) + 1) = ((i + 1 : Nat) : Int) := by rw [wrap_i64 (by omega) (by omega)]; omega
      have hf : ((us.take (i + 1)).map fun u => (u.1, q * u.2 % 4294967296)).foldl addT D = putN D' t.1 ((getN D' t.1 + q * t.2 % 4294967296) % 4294967296) := by
        rw [htk, List.map_append, List.foldl_append, hDD]
        rfl
      refine again_mk (cs := [(false, [.int .i64])]) (((i + 1 : Nat) : Int), ()) (us.length - (i + 1)) (hL _) (by omega) (congrArg (fun z => [Value.int .i64 z]) hw) ⟨i + 1, rfl, by omega, rfl, ?_, by rw [hf]; exact m7⟩
      exact Ch.trans (Ch.trans k4 e46 (by simp)) k7 (fun j hj _ => hj)
  · have g1 := of_decide_eq_false g1
    have hi : i = us.length := by omega
    subst hi
    rw [List.take_length] at m4
    exact hk _ _ m4 k4
/-- The code that makes a Lin out of a map. -/
def madeT (r0 : Option Nat) (a2 : Addr) (n1 : Int) (lv : Nat) : T :=
 T.new [.slice none 0 0, .int .u32 (0 : Int)] 36 <| fun (a3 : Addr) =>
 T.stores a3 [.slice none 0 0, .int .u32 n1] <|
 T.call Try.prog 43 [.map r0] false [(false, [.func #[63] #[] false])] <| fun (v4 : Value) =>
 T.call Try.prog 42 [v4] false [(false, [.slice 9])] <| fun (p5 : Option Addr) (l6 : Nat) (l7 : Nat) =>
 T.loop [(false, [.int .i64])] [.int .i64 (0 : Int)] <| fun (n8 : Int) =>
 cond (decide (n8 < (l6 : Int)))
  (T.need (((0 : Int) ≤ n8) ∧ (n8 < (l6 : Int))) <|
  T.osome p5 <| fun (a9 : Addr) =>
  T.loads (a9.add ((Int.toNat n8) * 1)) [.string] <| fun (s10 : ByteArray) =>
  T.sem Try.prog (Instr.lookup 31 (.map r0) (.string s10) false) false [(false, [.int .u32])] <| fun (n11 : Int) =>
  cond (n11 != (0 : Int))
   (T.loads a3 [.slice 40] <| fun (p12 : Option Addr) (l13 : Nat) (l14 : Nat) =>
   T.sem Try.prog (Instr.lookup 31 (.map r0) (.string s10) false) false [(false, [.int .u32])] <| fun (n15 : Int) =>
   T.sem Try.prog (Instr.buildSlice 33 1 #[(0, .agg #[.string s10, .int .u32 n15])]) false [(false, [.slice 0])] <| fun (p16 : Option Addr) (l17 : Nat) (l18 : Nat) =>
   T.sem Try.prog (Builtin.append_ #[33, 33] 33 #[.slice p12 l13 l14, .slice p16 l17 l18]) false [(false, [.slice 0])] <| fun (p19 : Option Addr) (l20 : Nat) (l21 : Nat) =>
   T.stores a3 [.slice p19 l20 l21] <|
   T.again lv [.int .i64 (IntKind.wrap .i64 (n8 + (1 : Int)))])
   (T.again lv [.int .i64 (IntKind.wrap .i64 (n8 + (1 : Int)))]))
  (T.loads a3 [.slice 40, .int .u32] <| fun (p9 : Option Addr) (l10 : Nat) (l11 : Nat) (n12 : Int) =>
  T.stores a2 [.slice p9 l10 l11, .int .u32 n12] <|
  T.loads a2 [.slice 40, .int .u32] <| fun (p13 : Option Addr) (l14 : Nat) (l15 : Nat) (n16 : Int) =>
  T.ret (.agg #[.slice p13 l14 l15, .int .u32 n16]))
theorem madeT_of {L : Lp} {K : Value → Hp → Prop} {h : Hp} {g g2 : Nat} {D : Tms} {lv : Nat} (hlv : L.length = lv) (m : MapB h g (vm D)) (hl : D.length ≤ 2 ^ 40) (n : Int) (c0 : Box h g2 36 [.slice none 0 0, .int .u32 0])
    (hk : ∀ p l c h', SL h' h.size 40 2 p l c ((madeL D).map encT) → Ch [g2] h h' → K (.agg #[.slice p l c, .int .u32 n]) h') : madeT (some g) ⟨g2, 0, none⟩ n lv L K h := by
  have hL : ∀ J : List Value → Hp → Prop, (L ++ [J])[lv]? = some J := by intro J; subst hlv; simp
  have hg2 := c0.lt
  unfold madeT
  refine newB ?_
  intro h2 b2 e2 z2
  refine stores_of b2 rfl (by simp) ?_
  intro h3 b3 k3 z3
  have b3 : Box h3 h.size 36 [.slice none 0 0, .int .u32 n] := b3
  have e3 : Ext h h3 := Ch.trans e2 k3 (fun i hi hl => by simp at hi; omega)
  have m3 := m.keep e3 (by simp)
  have c3 : Box h3 g2 36 [.slice none 0 0, .int .u32 0] := c0.keep e3 (by simp)
  refine call_of (keys_hc (some g) h3) ?_
  rintro _ h4 ⟨rfl, rfl⟩
  refine ⟨(.func (.func 48) #[] #[.pointer (some ⟨h3.size, 0, none⟩)], ()), rfl, ?_⟩
  dsimp only [flat, unc, unc1, List.nil_append, List.cons_append]
  have e4 : Ext h3 (h3.push (.cells #[.map (some g)] 31)) := Ext.push _ _
  have hkl : (vm D).length ≤ 2 ^ 40 := by unfold vm; rw [List.length_map]; exact hl
  refine call_of (sorted_hc m3 hkl) ?_
  rintro _ h5 ⟨pk, lk, ck, rfl, sk, e5⟩
  refine ⟨((pk, lk, ck), ()), rfl, ?_⟩
  dsimp only [flat, unc, unc1, List.nil_append, List.cons_append]
  have e35 := e4.trans e5
  have hkeys : (keysOf (vm D)).length ≤ 2 ^ 40 := by
    unfold keysOf
    rw [List.length_mergeSort, List.length_map]
    exact hkl
  have hlk : lk = (keysOf (vm D)).length := by rw [sk.1, List.length_map]
  unfold madeL at hk
  generalize keysOf (vm D) = ks at sk hkeys hlk hk
  have b5 := b3.keep e35 (by simp)
  have c5 := c3.keep e35 (by simp)
  have m5 := m3.keep e35 (by simp)
  have e05 := e3.trans e35
  have hz3 := e35.size
  have hb3 := b3.lt
  have hg := m.lt
  refine loop_of (cs := [(false, [.int .i64])]) (fun x w h' => ∃ (i : Nat) (p : Option Addr) (l c : Nat), x.1 = (i : Int) ∧ i ≤ ks.length ∧ w = ks.length - i ∧ Ch [h.size] h5 h' ∧ Box h' h.size 36 [.slice p l c, .int .u32 n] ∧
    SL h' h5.size 40 2 p l c (((ks.take i).filterMap fun k => if getN D ⟨k.toArray⟩ = 0 then none else some ((⟨k.toArray⟩ : ByteArray), getN D ⟨k.toArray⟩)).map encT) ∧ l ≤ i) ((0 : Int), ()) ks.length rfl
    ⟨0, none, 0, 0, rfl, by omega, by omega, Ch.refl _ _, b5, SL.nil _ _ _ _, by omega⟩ ?_
  rintro ⟨n8, ⟨⟩⟩ w h6 ⟨i, p, l, c, hi, hile, rfl, k6, b6, s6, hli⟩
  simp only at hi
  subst hi
  dsimp only [flat, unc, unc1, List.nil_append, List.cons_append]
  have m6 := m5.keep k6 (by simp; omega)
  have hz6 := k6.size
  have e06 : Ext h h6 := Ch.trans e05 k6 (fun j hj hl => by simp at hj; omega)
  refine cond_mk (fun g1 => ?_) (fun g1 => ?_)
  · have g1 := of_decide_eq_true g1
    have hilt : i < ks.length := by omega
    have sk6 := sk.keep' k6 (fun j hj => by have := (sk.blk hj).1; simp; omega)
    obtain ⟨a, rfl, hc⟩ := sk6.cells (i := i) (by simpa using hilt)
    rw [List.getElem_map] at hc
    have htk : ks.take (i + 1) = ks.take i ++ [ks[i]] := List.take_succ_eq_append_getElem hilt
    generalize ks[i] = k at hc htk
    refine need_of ⟨by omega, by omega⟩ (osome_mk rfl ?_)
    rw [show Int.toNat (i : Int) = i by omega]
    refine loads_of ((⟨k.toArray⟩ : ByteArray), ()) hc ?_
    dsimp only [flat, unc, unc1, List.nil_append, List.cons_append]
    have hw : IntKind.wrap .i64 ((i : Int) + 1) = ((i + 1 : Nat) : Int) := by rw [wrap_i64 (by omega) (by omega)]; omega
    refine look_of m6 _ (cond_mk (fun g2 => ?_) (fun g2 => ?_))
    · have g2 : ((getN D ⟨k.toArray⟩ : Nat) : Int) ≠ 0 := by simpa using g2
      refine loads_box b6 ((p, l, c), ()) rfl ?_
      dsimp only [flat, unc, unc1, List.nil_append, List.cons_append]
      refine look_of m6 _ ?_
      refine push_of (vs := encT (⟨k.toArray⟩, getN D ⟨k.toArray⟩)) und67 termZ rfl (by omega) (by omega) (by kernel_rfl) rfl rfl s6 hz6 (by omega) (by omega) ?_
      intro p' c' h7 s7 k7 hp7
      have b7 := b6.keep k7 (fun hh => by have := (s6.blk hh).1; omega)
      refine stores_of b7 rfl (by simp) ?_
      intro h8 b8 k8 z8
      refine again_mk (cs := [(false, [.int .i64])]) (((i + 1 : Nat) : Int), ()) (ks.length - (i + 1)) (hL _) (by omega) (congrArg (fun z => [Value.int .i64 z]) hw) ⟨i + 1, p', l + 1, c', rfl, by omega, rfl, ?_, b8, ?_, by omega⟩
      · exact Ch.trans (Ch.trans k6 k7 (fun j hj hl => by have := (s6.blk hj).1; omega)) k8 (fun j hj _ => hj)
      · rw [htk, List.filterMap_append, List.map_append]
        have hf : ([k].filterMap fun k => if getN D ⟨k.toArray⟩ = 0 then none else some ((⟨k.toArray⟩ : ByteArray), getN D ⟨k.toArray⟩)) = [((⟨k.toArray⟩ : ByteArray), getN D ⟨k.toArray⟩)] := by
          simp only [List.filterMap_cons, List.filterMap_nil]
          rw [if_neg (by omega)]
        rw [hf]
        exact s7.keep' k8 (fun j hj => by have := (s7.blk hj).1; simp; omega)
    · have g2 : ((getN D ⟨k.toArray⟩ : Nat) : Int) = 0 := by simpa using g2
      refine again_mk (cs := [(false, [.int .i64])]) (((i + 1 : Nat) : Int), ()) (ks.length - (i + 1)) (hL _) (by omega) (congrArg (fun z => [Value.int .i64 z]) hw) ⟨i + 1, p, l, c, rfl, by omega, rfl, k6, b6, ?_, by omega⟩
      rw [htk, List.filterMap_append]
      have hf : ([k].filterMap fun k => if getN D ⟨k.toArray⟩ = 0 then none else some ((⟨k.toArray⟩ : ByteArray), getN D ⟨k.toArray⟩)) = [] := by
        simp only [List.filterMap_cons, List.filterMap_nil]
        rw [if_pos (by omega)]
      rw [hf, List.append_nil]
      exact s6
  · have g1 := of_decide_eq_false g1
    have hi : i = ks.length := by omega
    subst hi
    rw [List.take_length] at s6
    have c6 := c5.keep k6 (by simp; omega)
    refine loads_box b6 ((p, l, c), n, ()) rfl ?_
    dsimp only [flat, unc, unc1, List.nil_append, List.cons_append]
    refine stores_of c6 rfl (by simp) ?_
    intro h7 b7 k7 z7
    have b7 : Box h7 g2 36 [.slice p l c, .int .u32 n] := b7
    refine loads_box b7 ((p, l, c), n, ()) rfl ?_
    have hz5 := e05.size
    exact hk _ _ _ _ ((s6.keep' k7 (fun j hj => by have := (s6.blk hj).1; simp; omega)).mono (by omega)) (Ch.trans (e06.mono (by simp)) k7 (fun j hj hl => hj))
/-- equ.put. -/
theorem put28_hc {h : Hp} {p : Option Addr} {l c : Nat} {x : Lin} (v : VwT h p l x.terms) {g n : Nat} {f : ByteArray → Option LinM} (m : MapL h g f n) (hl : x.terms.length ≤ 2 ^ 40) (hs : ∀ t, t ∈ x.terms → t.1.size ≤ maxLen) (hy : ∀ s y, f s = some y → y.x.terms.length ≤ 2 ^ 40 ∧ ∀ t, t ∈ y.x.terms → t.1.size ≤ maxLen)
    (hN : (x.terms.flatMap (xpd fun s => (f s).map (·.x))).length ≤ 2 ^ 40) :
    HC Try.prog 28 #[linV p l c x, .map (some g)] h fun w h' => (∃ p' l' c', w = linV p' l' c' (putS (fun s => (f s).map (·.x)) x) ∧ SL h' h.size 40 2 p' l' c' ((putS (fun s => (f s).map (·.x)) x).terms.map encT)) ∧ Ext h h' := by
  refine hcr_of (args := [linV p l c x, .map (some g)]) mixed Try.func28 (by kernel_rfl) (t_equ_put_eq p l c x.num (some g)) ?_
  unfold t_equ_put
  have hll := v.len
  refine newB ?_
  intro h1 b1 e1 z1
  refine newB ?_
  intro h2 b2 e2 z2
  refine makeMap_of _ ?_
  intro h3 m3 e3 z3
  refine ⟨(some h2.size, ()), rfl, ?_⟩
  dsimp only [flat, unc, unc1, List.nil_append, List.cons_append]
  have b13 := (b1.keep e2 (by simp)).keep e3 (by simp)
  have b23 := b2.keep e3 (by simp)
  have e03 := (e1.trans e2).trans e3
  rw [add_box]
  refine loads_box b13 ((x.num : Int), ()) rfl ?_
  dsimp only [flat, unc, unc1, List.nil_append, List.cons_append]
  refine loads_box b13 ((p, l, c), ()) rfl ?_
  dsimp only [flat, unc, unc1, List.nil_append, List.cons_append]
  have hh : h1.size = h.size + 1 := z1
  generalize hof : (fun s => (f s).map (·.x)) = of at hN
  have hofs : ∀ s, of s = (f s).map (·.x) := fun s => by rw [← hof]
  refine loop_of (cs := [(false, [.int .u32]), (false, [.int .i64])]) (fun y w h' => ∃ i : Nat, y.2.1 = (i : Int) ∧ i ≤ x.terms.length ∧ w = x.terms.length - i ∧ y.1 = (((x.terms.take i).foldl (xnum of) x.num : Nat) : Int) ∧ Ch [h2.size] h3 h' ∧ MapB h' h2.size (vm (((x.terms.take i).flatMap (xpd of)).foldl addT [])))
    ((x.num : Int), (0 : Int), ()) x.terms.length rfl ⟨0, rfl, by omega, by omega, rfl, Ch.refl _ _, m3⟩ ?_
  rintro ⟨n9, n10, ⟨⟩⟩ w h4 ⟨i, hi, hile, rfl, hn9, k4, m4⟩
  simp only at hi hn9
  subst hi hn9
  dsimp only [flat, unc, unc1, List.nil_append, List.cons_append]
  have e04 : Ext h h4 := Ch.trans e03 k4 (fun j hj hl => by simp at hj; omega)
  have hz4 := k4.size
  refine cond_mk (fun g1 => ?_) (fun g1 => ?_)
  · have g1 := of_decide_eq_true g1
    have hilt : i < x.terms.length := by omega
    obtain ⟨a, rfl, hc⟩ := (v.keep e04 (by simp)).cells i hilt
    have htk : x.terms.take (i + 1) = x.terms.take i ++ [x.terms[i]] := List.take_succ_eq_append_getElem hilt
    have hsz := hs x.terms[i] (List.getElem_mem hilt)
    generalize x.terms[i] = t at hc htk hsz
    have hw : IntKind.wrap .i64 ((i : Int) + 1) = ((i + 1 : Nat) : Int) := by rw [wrap_i64 (by omega) (by omega)]; omega
    refine need_of ⟨by omega, by omega⟩ (osome_mk rfl ?_)
    rw [show Int.toNat (i : Int) = i by omega]
    refine loads_of (t.1, (t.2 : Int), ()) hc ?_
    dsimp only [flat, unc, unc1, List.nil_append, List.cons_append]
    refine newB ?_
    intro h5 b5 e5 z5
    refine stores_of b5 rfl (by simp) ?_
    intro h6 b6 k6 z6
    have b6 : Box h6 h4.size 40 [.string t.1, .int .u32 (t.2 : Int)] := b6
    have e46 : Ext h4 h6 := Ch.trans e5 k6 (fun j hj hl => by simp at hj; omega)
    have m6 := m4.keep e46 (by simp)
    have e06 := e04.trans e46
    have hz6 := e46.size
    refine loads_box b6 (t.1, ()) rfl ?_
    dsimp only [flat, unc, unc1, List.nil_append, List.cons_append]
    have hfold : ((x.terms.take (i + 1)).flatMap (xpd of)).foldl addT [] = (xpd of t).foldl addT (((x.terms.take i).flatMap (xpd of)).foldl addT []) := by
      rw [htk, List.flatMap_append, List.foldl_append]
      simp
    have hnum : (x.terms.take (i + 1)).foldl (xnum of) x.num = xnum of ((x.terms.take i).foldl (xnum of) x.num) t := by
      rw [htk, List.foldl_append]; rfl
    generalize (x.terms.take i).foldl (xnum of) x.num = nn at hnum ⊢
    generalize ((x.terms.take i).flatMap (xpd of)).foldl addT [] = D' at hfold m6 ⊢
    refine lookL (m.map.keep e06 (by simp)) t.1 (fun y hy1 => ?_) (fun hy0 => ?_)
    · have hoy : of t.1 = some y.x := by rw [hofs, hy1]; rfl
      refine newB ?_
      intro h7 b7 e7 z7
      refine stores_of b7 rfl (by simp) ?_
      intro h8 b8 k8 z8
      have b8 : Box h8 h6.size 36 [.slice y.p y.l y.c, .int .u32 (y.x.num : Int)] := b8
      have e68 : Ext h6 h8 := Ch.trans e7 k8 (fun j hj hl => by simp at hj; omega)
      refine cond_f rfl ?_
      refine loads_box b8 ((y.p, y.l, y.c), ()) rfl ?_
      dsimp only [flat, unc, unc1, List.nil_append, List.cons_append]
      have hh2 : h2.size = h.size + 2 := by omega
      refine mulT_of (q := t.2) (nm := t.1) (us := y.x.terms) rfl ((m.inn _ _ hy1).keep (e06.trans e68) (by simp)) (hy _ _ hy1).1 (hy _ _ hy1).2 (m6.keep e68 (by simp)) (fun hne hb => by have := (m.inn _ _ hy1).ofLt hne _ hb; omega) (b6.keep e68 (by simp)) (by omega) ?_
      intro J h9 m9 k9
      have b69 := (b6.keep e68 (by simp)).keep k9 (by simp; omega)
      have b89 := b8.keep k9 (by simp; omega)
      rw [add_box]
      refine loads_box b69 ((t.2 : Int), ()) rfl ?_
      dsimp only [flat, unc, unc1, List.nil_append, List.cons_append]
      rw [add_box]
      refine loads_box b89 ((y.x.num : Int), ()) rfl ?_
      dsimp only [flat, unc, unc1, List.nil_append, List.cons_append]
      have hnn : IntKind.wrap .u32 ((nn : Int) + IntKind.wrap .u32 ((t.2 : Int) * (y.x.num : Int))) = ((xnum of nn t : Nat) : Int) := by
        unfold xnum
        rw [hoy]
        simp only
        rw [wrap_u32_mod, wrap_u32_mod, cast_mod, Int.natCast_add, cast_mod, Int.natCast_mul]
      refine again_mk (cs := [(false, [.int .u32]), (false, [.int .i64])]) (((xnum of nn t : Nat) : Int), ((i + 1 : Nat) : Int), ()) (x.terms.length - (i + 1)) rfl (by omega) (by rw [hnn, hw]; rfl) ⟨i + 1, rfl, by omega, rfl, by rw [hnum], Ch.trans (Ch.trans (Ch.trans k4 e46 (by simp)) e68 (by simp)) k9 (fun j hj _ => hj), ?_⟩
      rw [hfold]
      unfold xpd
      rw [hoy]
      exact m9
    · have hoy : of t.1 = none := by rw [hofs, hy0]; rfl
      refine newB ?_
      intro h7 b7 e7 z7
      refine stores_of b7 rfl (by simp) ?_
      intro h8 b8 k8 z8
      have e68 : Ext h6 h8 := Ch.trans e7 k8 (fun j hj hl => by simp at hj; omega)
      have b68 := b6.keep e68 (by simp)
      refine cond_t rfl ?_
      refine loads_box b68 (t.1, ()) rfl ?_
      dsimp only [flat, unc, unc1, List.nil_append, List.cons_append]
      refine look_of (m6.keep e68 (by simp)) _ ?_
      rw [add_box]
      refine loads_box b68 ((t.2 : Int), ()) rfl ?_
      dsimp only [flat, unc, unc1, List.nil_append, List.cons_append]
      refine put_of (n := (getN D' t.1 + t.2) % 4294967296) (m6.keep e68 (by simp)) hsz ?_ ?_
      · rw [wrap_u32_mod, cast_mod, Int.natCast_add]
      · intro h9 m9 k9 z9
        have hnn : xnum of nn t = nn := by unfold xnum; rw [hoy]
        refine again_mk (cs := [(false, [.int .u32]), (false, [.int .i64])]) ((nn : Int), ((i + 1 : Nat) : Int), ()) (x.terms.length - (i + 1)) rfl (by omega) (by rw [hw]; rfl) ⟨i + 1, rfl, by omega, rfl, by rw [hnum, hnn], Ch.trans (Ch.trans (Ch.trans k4 e46 (by simp)) e68 (by simp)) k9 (fun j hj _ => hj), ?_⟩
        rw [hfold]
        unfold xpd
        rw [hoy]
        exact m9
  · have g1 := of_decide_eq_false g1
    have hi : i = x.terms.length := by omega
    subst hi
    rw [List.take_length] at m4 ⊢
    have hD : ((x.terms.flatMap (xpd of)).foldl addT []).length ≤ 2 ^ 40 := by
      have := foldl_length (x.terms.flatMap (xpd of)) []
      simp only [List.length_nil, Nat.zero_add] at this
      omega
    refine madeT_of (lv := 1) rfl m4 hD _ (b23.keep k4 (by simp; omega)) ?_
    intro p' l' c' h9 s9 k9
    exact ⟨⟨p', l', c', rfl, s9.mono (by omega)⟩, Ch.trans e04 k9 (fun j hj hl => by simp at hj; omega)⟩
end Go.Sx

set_option linter.unusedVariables false
set_option maxRecDepth 100000
namespace Go.Sx
open Go.Proofs
structure TS where
  num : ByteArray → Option Nat
  cnt : Nat
  low : ByteArray → Option Nat
  on : ByteArray → Option Bool
  back : ByteArray → Option Bool
  way : List ByteArray
def openF (v : ByteArray) (st : TS) : TS := { st with num := fset st.num v (st.cnt + 1), cnt := st.cnt + 1, low := fset st.low v (st.cnt + 1), way := st.way ++ [v], on := fset st.on v true }
def selfF (v w : ByteArray) (st : TS) : TS := if w = v then { st with back := fset st.back v true } else st
def lowF (v : ByteArray) (n : Nat) (st : TS) : TS := { st with low := fset st.low v (min ((st.low v).getD 0) n) }
def restF (vis : ByteArray → TS → TS) (v w : ByteArray) (st : TS) : TS :=
  if (st.num w).getD 0 = 0 then lowF v (((vis w st).low w).getD 0) (vis w st)
  else if (st.on w).getD false = true then lowF v ((st.num w).getD 0) st
  else st
def stepF (own : ByteArray → Bool) (vis : ByteArray → TS → TS) (v : ByteArray) (st : TS) (w : ByteArray) : TS :=
  if own w = true then restF vis v w (selfF v w st) else st
def offF (big : Bool) (st : TS) (x : ByteArray) : TS := { st with on := fset st.on x false, back := fset st.back x ((st.back x).getD false || big) }
def popK (v : ByteArray) (st : TS) : Nat := st.way.findIdx (fun x => decide (v = x))
def popF (v : ByteArray) (st : TS) : TS := { (st.way.drop (popK v st)).foldl (offF (decide (1 < st.way.length - popK v st))) st with way := st.way.take (popK v st) }
def visitF (own : ByteArray → Bool) (succ : ByteArray → List ByteArray) : Nat → ByteArray → TS → TS
  | 0, _, st => st
  | f + 1, v, st =>
    if (((succ v).foldl (stepF own (visitF own succ f) v) (openF v st)).low v).getD 0 < (((succ v).foldl (stepF own (visitF own succ f) v) (openF v st)).num v).getD 0 then (succ v).foldl (stepF own (visitF own succ f) v) (openF v st)
    else popF v ((succ v).foldl (stepF own (visitF own succ f) v) (openF v st))
def ts0 : TS := ⟨fun _ => none, 0, fun _ => none, fun _ => none, fun _ => none, []⟩
def topF (own : ByteArray → Bool) (succ : ByteArray → List ByteArray) (f : Nat) (st : TS) (v : ByteArray) : TS := if (st.num v).getD 0 = 0 then visitF own succ f v st else st
def turnF (own : ByteArray → Bool) (succ : ByteArray → List ByteArray) (names : List ByteArray) : TS := names.foldl (topF own succ names.length) ts0
/-- How many of the names have no number. -/
def unn (names : List ByteArray) (st : TS) : Nat := (names.filter fun v => (st.num v).isNone).length
structure GoodS (names : List ByteArray) (st : TS) : Prop where
  sum : st.cnt + unn names st = names.length
  pos : ∀ s n, st.num s = some n → 1 ≤ n
  way : st.way.length ≤ st.cnt
  inn : ∀ x, x ∈ st.way → st.num x ≠ Option.none
theorem GoodS.none {names : List ByteArray} {st : TS} (g : GoodS names st) {w : ByteArray} (h : (st.num w).getD 0 = 0) : st.num w = Option.none := by
  cases hh : st.num w with
  | none => rfl
  | some n =>
    rw [hh] at h
    have := g.pos w n hh
    simp at h
    omega
theorem unn_set {names : List ByteArray} (hn : names.Nodup) {v : ByteArray} (hv : v ∈ names) {f : ByteArray → Option Nat} (h0 : f v = Option.none) (n : Nat) : (names.filter fun s => (fset f v n s).isNone).length + 1 = (names.filter fun s => (f s).isNone).length := by
  induction names with
  | nil => simp at hv
  | cons x l ih =>
    obtain ⟨hx, hn⟩ := List.nodup_cons.1 hn
    by_cases e : x = v
    · subst e
      have hl : l.filter (fun s => (fset f x n s).isNone) = l.filter (fun s => (f s).isNone) := by
        refine List.filter_congr fun s hs => ?_
        rw [fset_other _ _ (fun k => hx (by rw [← k]; exact hs))]
      rw [List.filter_cons, List.filter_cons, fset_same, h0, hl]
      simp
    · have hv' : v ∈ l := by
        rcases List.mem_cons.1 hv with h | h
        · exact (e h.symm).elim
        · exact h
      have := ih hn hv'
      rw [List.filter_cons, List.filter_cons, fset_other _ _ e]
      split
      · simp only [List.length_cons]; omega
      · exact this
theorem offF_num (big : Bool) (l : List ByteArray) : ∀ st : TS, (l.foldl (offF big) st).num = st.num ∧ (l.foldl (offF big) st).cnt = st.cnt ∧ (l.foldl (offF big) st).low = st.low := by
  induction l with
  | nil => intro st; exact ⟨rfl, rfl, rfl⟩
  | cons x l ih =>
    intro st
    rw [List.foldl_cons]
    exact ih _
theorem popF_num (v : ByteArray) (st : TS) : (popF v st).num = st.num := (offF_num _ _ _).1
theorem popF_cnt (v : ByteArray) (st : TS) : (popF v st).cnt = st.cnt := (offF_num _ _ _).2.1
theorem popF_low (v : ByteArray) (st : TS) : (popF v st).low = st.low := (offF_num _ _ _).2.2
theorem popF_way (v : ByteArray) (st : TS) : (popF v st).way = st.way.take (popK v st) := rfl
theorem selfF_num (v w : ByteArray) (st : TS) : (selfF v w st).num = st.num ∧ (selfF v w st).cnt = st.cnt ∧ (selfF v w st).way = st.way ∧ (selfF v w st).on = st.on ∧ (selfF v w st).low = st.low := by
  unfold selfF
  split <;> exact ⟨rfl, rfl, rfl, rfl, rfl⟩
theorem GoodS.self {names : List ByteArray} {st : TS} (g : GoodS names st) (v w : ByteArray) : GoodS names (selfF v w st) := by
  obtain ⟨h1, h2, h3, _⟩ := selfF_num v w st
  exact ⟨by unfold unn; rw [h1, h2]; exact g.sum, by rw [h1]; exact g.pos, by rw [h2, h3]; exact g.way, by rw [h1, h3]; exact g.inn⟩
theorem GoodS.low {names : List ByteArray} {st : TS} (g : GoodS names st) (v : ByteArray) (n : Nat) : GoodS names (lowF v n st) := ⟨g.sum, g.pos, g.way, g.inn⟩
theorem GoodS.open {names : List ByteArray} (hn : names.Nodup) {st : TS} (g : GoodS names st) {v : ByteArray} (hv : v ∈ names) (h0 : st.num v = Option.none) : GoodS names (openF v st) ∧ unn names (openF v st) + 1 = unn names st := by
  have h1 : unn names (openF v st) + 1 = unn names st := unn_set hn hv h0 _
  refine ⟨⟨?_, fun s n hs => ?_, ?_, fun x hx => ?_⟩, h1⟩
  · have := g.sum
    show st.cnt + 1 + unn names (openF v st) = _
    omega
  · have hs : fset st.num v (st.cnt + 1) s = some n := hs
    by_cases e : s = v
    · subst e
      rw [fset_same] at hs
      have := Option.some.inj hs
      omega
    · rw [fset_other _ _ e] at hs
      exact g.pos s n hs
  · have := g.way
    show (st.way ++ [v]).length ≤ st.cnt + 1
    simp; omega
  · have hx : x ∈ st.way ++ [v] := hx
    show fset st.num v _ x ≠ Option.none
    by_cases e : x = v
    · subst e; rw [fset_same]; simp
    · rw [fset_other _ _ e]
      rcases List.mem_append.1 hx with h | h
      · exact g.inn x h
      · exact (e (List.mem_singleton.1 h)).elim
theorem GoodS.pop {names : List ByteArray} {st : TS} (g : GoodS names st) (v : ByteArray) : GoodS names (popF v st) :=
  ⟨by unfold unn; rw [popF_num, popF_cnt]; exact g.sum, by rw [popF_num]; exact g.pos, by rw [popF_way, popF_cnt, List.length_take]; have := g.way; omega, fun x hx => by rw [popF_num]; rw [popF_way] at hx; exact g.inn x (List.mem_of_mem_take hx)⟩
/-- What a visit leaves: good, and no number is turned. -/
def OkV (names : List ByteArray) (st st' : TS) : Prop := GoodS names st' ∧ (∀ s n, st.num s = some n → st'.num s = some n) ∧ st.way <+: st'.way
theorem OkV.unn {names : List ByteArray} {st st' : TS} (h : OkV names st st') : unn names st' ≤ unn names st := by
  unfold Sx.unn
  rw [← List.countP_eq_length_filter, ← List.countP_eq_length_filter]
  refine List.countP_mono_left fun x hx h' => ?_
  cases hh : st.num x with
  | none => rfl
  | some n => rw [h.2.1 x n hh] at h'; simp at h'
theorem OkV.trans {names : List ByteArray} {a b c : TS} (h : OkV names a b) (k : OkV names b c) : OkV names a c := ⟨k.1, fun s n hs => k.2.1 s n (h.2.1 s n hs), h.2.2.trans k.2.2⟩
theorem OkV.refl {names : List ByteArray} {a : TS} (h : GoodS names a) : OkV names a a := ⟨h, fun s n hs => hs, List.prefix_refl _⟩
theorem restF_ok {names : List ByteArray} {vis : ByteArray → TS → TS} {f : Nat} (hvis : ∀ w st, GoodS names st → w ∈ names → st.num w = Option.none → Sx.unn names st ≤ f → OkV names st (vis w st)) {v w : ByteArray} {st : TS} (g : GoodS names st) (hw : w ∈ names) (hu : Sx.unn names st ≤ f) : OkV names st (restF vis v w st) := by
  unfold restF
  split
  · rename_i h0
    have h := hvis w st g hw (g.none h0) hu
    exact ⟨h.1.low v _, h.2.1, h.2.2⟩
  · split
    · exact ⟨g.low v _, fun s n hs => hs, List.prefix_refl _⟩
    · exact OkV.refl g
theorem stepF_ok {names : List ByteArray} {own : ByteArray → Bool} (hown : ∀ s, own s = true → s ∈ names) {vis : ByteArray → TS → TS} {f : Nat} (hvis : ∀ w st, GoodS names st → w ∈ names → st.num w = Option.none → Sx.unn names st ≤ f → OkV names st (vis w st)) {v w : ByteArray} {st : TS} (g : GoodS names st) (hu : Sx.unn names st ≤ f) : OkV names st (stepF own vis v st w) := by
  unfold stepF
  split
  · rename_i ho
    have h1 : OkV names st (selfF v w st) := ⟨g.self v w, fun s n hs => by rw [(selfF_num v w st).1]; exact hs, by rw [(selfF_num v w st).2.2.1]; exact List.prefix_refl _⟩
    exact h1.trans (restF_ok hvis (g.self v w) (hown w ho) (Nat.le_trans h1.unn hu))
  · exact OkV.refl g
theorem foldF_ok {names : List ByteArray} {own : ByteArray → Bool} (hown : ∀ s, own s = true → s ∈ names) {vis : ByteArray → TS → TS} {f : Nat} (hvis : ∀ w st, GoodS names st → w ∈ names → st.num w = Option.none → Sx.unn names st ≤ f → OkV names st (vis w st)) (v : ByteArray) : ∀ (l : List ByteArray) (st : TS), GoodS names st → Sx.unn names st ≤ f → OkV names st (l.foldl (stepF own vis v) st)
  | [], st, g, hu => OkV.refl g
  | w :: l, st, g, hu => by
    have h1 := stepF_ok hown hvis (v := v) (w := w) g hu
    rw [List.foldl_cons]
    exact h1.trans (foldF_ok hown hvis v l _ h1.1 (Nat.le_trans h1.unn hu))
theorem popK_of {a b : List ByteArray} {v : ByteArray} (h : a ++ [v] <+: b) (hv : v ∉ a) {st : TS} (hs : st.way = b) : popK v st = a.length ∧ b.take a.length = a ∧ a.length < b.length := by
  obtain ⟨t, rfl⟩ := h
  unfold popK
  rw [hs]
  refine ⟨?_, by simp, by simp⟩
  rw [List.append_assoc, List.findIdx_append, if_neg ?_]
  · simp [List.findIdx_cons]
  · rw [List.findIdx_lt_length]
    rintro ⟨x, hx, e⟩
    exact hv (by rw [of_decide_eq_true e]; exact hx)
theorem GoodS.notin {names : List ByteArray} {st : TS} (g : GoodS names st) {v : ByteArray} (h0 : st.num v = Option.none) : v ∉ st.way := fun hv => g.inn v hv h0
theorem openF_ok {names : List ByteArray} (hn : names.Nodup) {v : ByteArray} {st : TS} (g : GoodS names st) (hv : v ∈ names) (h0 : st.num v = Option.none) : OkV names st (openF v st) :=
  ⟨(g.open hn hv h0).1, fun s n hs => by
      show fset st.num v _ s = some n
      rw [fset_other _ _ (fun e => by rw [e, h0] at hs; cases hs)]
      exact hs, ⟨[v], rfl⟩⟩
theorem visitF_ok {names : List ByteArray} (hn : names.Nodup) {own : ByteArray → Bool} (hown : ∀ s, own s = true → s ∈ names) (succ : ByteArray → List ByteArray) : ∀ (f : Nat) (v : ByteArray) (st : TS), GoodS names st → v ∈ names → st.num v = Option.none → Sx.unn names st ≤ f → OkV names st (visitF own succ f v st)
  | 0, v, st, g, hv, h0, hu => OkV.refl g
  | f + 1, v, st, g, hv, h0, hu => by
    obtain ⟨g1, hu1⟩ := g.open hn hv h0
    have h2 := foldF_ok hown (visitF_ok hn hown succ f) v (succ v) _ g1 (by omega)
    have h3 := (openF_ok hn g hv h0).trans h2
    unfold visitF
    split
    · exact h3
    · refine ⟨h3.1.pop v, fun s n hs => by rw [popF_num]; exact h3.2.1 s n hs, ?_⟩
      obtain ⟨e1, e2, _⟩ := popK_of (a := st.way) (v := v) h2.2.2 (g.notin h0) rfl
      rw [popF_way, e1, e2]
      exact List.prefix_refl _
/-- The state ahead of the loop's i-th round is good. -/
theorem fold_good {names : List ByteArray} (hn : names.Nodup) {own : ByteArray → Bool} (hown : ∀ s, own s = true → s ∈ names) (succ : ByteArray → List ByteArray) {f : Nat} {v : ByteArray} {st : TS} (g : GoodS names st) (hv : v ∈ names) (h0 : st.num v = Option.none) (hu : Sx.unn names st ≤ f + 1) (l : List ByteArray) :
    GoodS names (l.foldl (stepF own (visitF own succ f) v) (openF v st)) ∧ Sx.unn names (l.foldl (stepF own (visitF own succ f) v) (openF v st)) ≤ f ∧ st.way ++ [v] <+: (l.foldl (stepF own (visitF own succ f) v) (openF v st)).way ∧ ∃ n, (l.foldl (stepF own (visitF own succ f) v) (openF v st)).num v = some n := by
  obtain ⟨g1, hu1⟩ := g.open hn hv h0
  have h2 := foldF_ok hown (visitF_ok hn hown succ f) v l _ g1 (by omega)
  exact ⟨h2.1, by have := h2.unn; omega, h2.2.2, _, h2.2.1 v (st.cnt + 1) (fset_same _ _ _)⟩
theorem good0 (names : List ByteArray) : GoodS names ts0 := ⟨by unfold unn ts0; simp, fun s n hs => (by cases hs), by simp [ts0], by simp [ts0]⟩
end Go.Sx

set_option linter.unusedVariables false
set_option maxRecDepth 100000
namespace Go.Sx
open Go.Proofs
section
variable {E : ByteArray → ByteArray → Prop}
inductive Rch (E : ByteArray → ByteArray → Prop) : ByteArray → ByteArray → Prop
  | refl (a : ByteArray) : Rch E a a
  | head {a b c : ByteArray} : E a b → Rch E b c → Rch E a c
theorem Rch.trans {a b c : ByteArray} (h : Rch E a b) (k : Rch E b c) : Rch E a c := by
  induction h with
  | refl => exact k
  | head e _ ih => exact .head e (ih k)
theorem Rch.one {a b : ByteArray} (h : E a b) : Rch E a b := .head h (.refl b)
/-- On a cycle. -/
def OnC (E : ByteArray → ByteArray → Prop) (v : ByteArray) : Prop := ∃ y, E v y ∧ Rch E y v
theorem OnC.of {a b : ByteArray} (h : Rch E a b) (k : Rch E b a) (hne : a ≠ b) : OnC E a := by
  cases h with
  | refl => exact (hne rfl).elim
  | head e r => exact ⟨_, e, r.trans k⟩
structure Inv (E : ByteArray → ByteArray → Prop) (G : List ByteArray) (st : TS) : Prop where
  le : ∀ s n, st.num s = some n → 1 ≤ n ∧ n ≤ st.cnt
  way : ∀ x, x ∈ st.way → st.num x ≠ none
  on : ∀ x, (st.on x).getD false = true ↔ x ∈ st.way
  gr : ∀ g, g ∈ G → g ∈ st.way
  cl : ∀ x, st.num x ≠ none → x ∉ st.way → ∀ y, E x y → st.num y ≠ none ∧ y ∉ st.way
  bl : ∀ x, st.num x ≠ none → x ∉ G → ∀ y, E x y → st.num y ≠ none
  rg : ∀ x, x ∈ st.way → ∃ g, g ∈ G ∧ Rch E x g
  b0 : ∀ x, st.num x = none → (st.back x).getD false = false
  bc : ∀ x, st.num x ≠ none → x ∉ st.way → ((st.back x).getD false = true ↔ OnC E x)
  bw : ∀ x, x ∈ st.way → (st.back x).getD false = true → E x x
  bb : ∀ x, x ∈ st.way → x ∉ G → E x x → (st.back x).getD false = true
theorem Inv.low {G : List ByteArray} {st : TS} (i : Inv E G st) (v : ByteArray) (n : Nat) : Inv E G (lowF v n st) := ⟨i.le, i.way, i.on, i.gr, i.cl, i.bl, i.rg, i.b0, i.bc, i.bw, i.bb⟩
theorem Inv.cl_rch {G : List ByteArray} {st : TS} (i : Inv E G st) {x y : ByteArray} (h : Rch E x y) : st.num x ≠ none → x ∉ st.way → st.num y ≠ none ∧ y ∉ st.way := by
  induction h with
  | refl => exact fun h k => ⟨h, k⟩
  | head e _ ih => intro h k; obtain ⟨h2, k2⟩ := i.cl _ h k _ e; exact ih h2 k2
theorem Inv.self {G : List ByteArray} {st : TS} (i : Inv E G st) {v w : ByteArray} (hv : v ∈ G) (he : w = v → E v v) : Inv E G (selfF v w st) := by
  unfold selfF
  split
  · rename_i h
    have hw := i.gr v hv
    have hn := i.way v hw
    refine ⟨i.le, i.way, i.on, i.gr, i.cl, i.bl, i.rg, fun x hx => ?_, fun x hx hxw => ?_, fun x hx hb => ?_, fun x hx hg hE => ?_⟩
    · have hne : x ≠ v := fun e => hn (by rw [← e]; exact hx)
      show (fset st.back v true x).getD false = false
      rw [fset_other _ _ hne]; exact i.b0 x hx
    · have hne : x ≠ v := fun e => hxw (by rw [e]; exact hw)
      show (fset st.back v true x).getD false = true ↔ _
      rw [fset_other _ _ hne]; exact i.bc x hx hxw
    · by_cases e : x = v
      · subst e; exact he h
      · have hb : (fset st.back v true x).getD false = true := hb
        rw [fset_other _ _ e] at hb; exact i.bw x hx hb
    · have hne : x ≠ v := fun e => hg (by rw [e]; exact hv)
      show (fset st.back v true x).getD false = true
      rw [fset_other _ _ hne]; exact i.bb x hx hg hE
  · exact i
theorem Inv.open {G : List ByteArray} {st : TS} (i : Inv E G st) {v : ByteArray} (h0 : st.num v = none) : Inv E (v :: G) (openF v st) := by
  have hw : v ∉ st.way := fun h => i.way v h h0
  have num_other : ∀ {x}, x ≠ v → (openF v st).num x = st.num x := fun h => fset_other _ _ h
  have mono : ∀ {x}, st.num x ≠ none → (openF v st).num x ≠ none := by
    intro x h
    rw [num_other (fun e => h (by rw [e]; exact h0))]; exact h
  refine ⟨fun s n hs => ?_, fun x hx => ?_, fun x => ?_, fun g hg => ?_, fun x hx hxw y hy => ?_, fun x hx hxg y hy => ?_, fun x hx => ?_, fun x hx => ?_, fun x hx hxw => ?_, fun x hx hb => ?_, fun x hx hg hE => ?_⟩
  · show 1 ≤ n ∧ n ≤ st.cnt + 1
    by_cases e : s = v
    · subst e
      have hs : fset st.num s (st.cnt + 1) s = some n := hs
      rw [fset_same] at hs
      have := Option.some.inj hs
      omega
    · rw [num_other e] at hs
      have := i.le s n hs
      omega
  · rcases List.mem_append.1 (show x ∈ st.way ++ [v] from hx) with h | h
    · exact mono (i.way x h)
    · rw [List.mem_singleton.1 h]
      show fset st.num v _ v ≠ none
      rw [fset_same]; simp
  · show (fset st.on v true x).getD false = true ↔ x ∈ st.way ++ [v]
    by_cases e : x = v
    · subst e; rw [fset_same]; simp
    · rw [fset_other _ _ e, i.on x]; simp [e]
  · show g ∈ st.way ++ [v]
    rcases List.mem_cons.1 hg with h | h
    · simp [h]
    · exact List.mem_append_left _ (i.gr g h)
  · have hxw : x ∉ st.way ++ [v] := hxw
    have hne : x ≠ v := fun e => hxw (by simp [e])
    rw [num_other hne] at hx
    obtain ⟨h1, h2⟩ := i.cl x hx (fun h => hxw (List.mem_append_left _ h)) y hy
    refine ⟨mono h1, ?_⟩
    show y ∉ st.way ++ [v]
    intro h
    rcases List.mem_append.1 h with h | h
    · exact h2 h
    · exact h1 (by rw [List.mem_singleton.1 h]; exact h0)
  · have hne : x ≠ v := fun e => hxg (by simp [e])
    rw [num_other hne] at hx
    exact mono (i.bl x hx (fun h => hxg (List.mem_cons_of_mem _ h)) y hy)
  · rcases List.mem_append.1 (show x ∈ st.way ++ [v] from hx) with h | h
    · obtain ⟨g, hg, r⟩ := i.rg x h
      exact ⟨g, List.mem_cons_of_mem _ hg, r⟩
    · rw [List.mem_singleton.1 h]
      exact ⟨v, by simp, .refl v⟩
  · have hne : x ≠ v := by
      intro e
      subst e
      have hx : fset st.num x _ x = none := hx
      rw [fset_same] at hx; cases hx
    rw [num_other hne] at hx
    exact i.b0 x hx
  · have hxw : x ∉ st.way ++ [v] := hxw
    have hne : x ≠ v := fun e => hxw (by simp [e])
    rw [num_other hne] at hx
    exact i.bc x hx (fun h => hxw (List.mem_append_left _ h))
  · rcases List.mem_append.1 (show x ∈ st.way ++ [v] from hx) with h | h
    · exact i.bw x h hb
    · rw [List.mem_singleton.1 h] at hb
      have hb : (st.back v).getD false = true := hb
      rw [i.b0 v h0] at hb; cases hb
  · have hne : x ≠ v := fun e => hg (by simp [e])
    rcases List.mem_append.1 (show x ∈ st.way ++ [v] from hx) with h | h
    · exact i.bb x h (fun k => hg (List.mem_cons_of_mem _ k)) hE
    · exact (hne (List.mem_singleton.1 h)).elim
def lwV (st : TS) (v : ByteArray) : Nat := (st.low v).getD 0
def nmV (st : TS) (v : ByteArray) : Nat := (st.num v).getD 0
def Same3 (s0 st : TS) : Prop := ∀ s, s0.num s ≠ none → st.num s = s0.num s ∧ st.low s = s0.low s ∧ st.back s = s0.back s
def NewB (s0 st : TS) : Prop := ∀ s n, s0.num s = none → st.num s = some n → s0.cnt < n
def WayX (E : ByteArray → ByteArray → Prop) (v : ByteArray) (s0 st : TS) (x : ByteArray) : Prop := s0.num x = none ∧ Rch E v x ∧ ∀ y, E x y → y ∈ s0.way → lwV st v ≤ nmV st y
structure Post (E : ByteArray → ByteArray → Prop) (G : List ByteArray) (v : ByteArray) (s0 st : TS) : Prop where
  inv : Inv E G st
  old : Same3 s0 st
  cnt : s0.cnt ≤ st.cnt
  new : NewB s0 st
  num : ∃ n, st.num v = some n
  way : ∃ X, st.way = s0.way ++ X ∧ ∀ x, x ∈ X → WayX E v s0 st x
  low : lwV st v < nmV st v → ∃ y, y ∈ s0.way ∧ Rch E v y ∧ st.num y = some (lwV st v)
structure Mid (E : ByteArray → ByteArray → Prop) (own : ByteArray → Bool) (G : List ByteArray) (v : ByteArray) (P : List ByteArray) (s0 st : TS) : Prop where
  inv : Inv E (v :: G) st
  old : Same3 s0 st
  cnt : s0.cnt ≤ st.cnt
  new : NewB s0 st
  num : st.num v = some (s0.cnt + 1)
  way : ∃ X, st.way = s0.way ++ v :: X ∧ ∀ x, x ∈ X → x ≠ v ∧ WayX E v s0 st x
  low : lwV st v < s0.cnt + 1 → ∃ y, y ∈ s0.way ∧ Rch E v y ∧ st.num y = some (lwV st v)
  vis : ∀ w, w ∈ P → own w = true → st.num w ≠ none ∧ (w ∈ s0.way → lwV st v ≤ nmV st w) ∧ (w = v → (st.back v).getD false = true)
theorem Mid.start {own : ByteArray → Bool} {G : List ByteArray} {v : ByteArray} {s0 : TS} (i : Inv E G s0) (h0 : s0.num v = none) : Mid E own G v [] s0 (openF v s0) := by
  refine ⟨i.open h0, fun s hs => ?_, Nat.le_succ _, fun s n hs hn => ?_, fset_same _ _ _, ⟨[], rfl, fun x hx => by simp at hx⟩, fun hl => ?_, fun w hw => by simp at hw⟩
  · have hne : s ≠ v := fun e => hs (by rw [e]; exact h0)
    exact ⟨fset_other _ _ hne, fset_other _ _ hne, rfl⟩
  · by_cases e : s = v
    · subst e
      have hn : fset s0.num s (s0.cnt + 1) s = some n := hn
      rw [fset_same] at hn
      have := Option.some.inj hn
      omega
    · have hn : fset s0.num v (s0.cnt + 1) s = some n := hn
      rw [fset_other _ _ e, hs] at hn; cases hn
  · have hl : (fset s0.low v (s0.cnt + 1) v).getD 0 < s0.cnt + 1 := hl
    rw [fset_same] at hl
    simp at hl
theorem Mid.self {own : ByteArray → Bool} {G : List ByteArray} {v w : ByteArray} {P : List ByteArray} {s0 st : TS} (m : Mid E own G v P s0 st) (h0 : s0.num v = none) (he : w = v → E v v) :
    Mid E own G v P s0 (selfF v w st) ∧ (w = v → ((selfF v w st).back v).getD false = true) := by
  obtain ⟨k1, k2, k3, k4, k5⟩ := selfF_num v w st
  have hb : ∀ s, s ≠ v → (selfF v w st).back s = st.back s := by
    intro s hs
    unfold selfF
    split
    · exact fset_other _ _ hs
    · rfl
  have hbv : w = v → ((selfF v w st).back v).getD false = true := by
    intro e
    unfold selfF
    rw [if_pos e]
    show (fset st.back v true v).getD false = true
    rw [fset_same]; rfl
  have hbv2 : (st.back v).getD false = true → ((selfF v w st).back v).getD false = true := by
    intro h
    unfold selfF
    split
    · show (fset st.back v true v).getD false = true
      rw [fset_same]; rfl
    · exact h
  refine ⟨⟨m.inv.self (by simp) he, fun s hs => ?_, by rw [k2]; exact m.cnt, fun s n hs hn => by rw [k1] at hn; exact m.new s n hs hn, by rw [k1]; exact m.num, ?_, ?_, fun u hu ho => ?_⟩, hbv⟩
  · have hne : s ≠ v := fun e => hs (by rw [e]; exact h0)
    rw [k1, k5, hb s hne]
    exact m.old s hs
  · obtain ⟨X, hX, hx⟩ := m.way
    refine ⟨X, by rw [k3]; exact hX, fun x hxX => ?_⟩
    have := hx x hxX
    unfold WayX lwV nmV at *
    rw [k1, k5]
    exact this
  · unfold lwV
    rw [k1, k5]
    exact m.low
  · obtain ⟨a, b, c⟩ := m.vis u hu ho
    unfold lwV nmV at *
    rw [k1, k5]
    exact ⟨a, b, fun e => hbv2 (c e)⟩
theorem lwV_low (v : ByteArray) (n : Nat) (st : TS) : lwV (lowF v n st) v = min (lwV st v) n := by
  unfold lwV
  show (fset st.low v _ v).getD 0 = _
  rw [fset_same]; rfl
/-- Behind a step along an edge. -/
theorem Mid.rest {own : ByteArray → Bool} {G : List ByteArray} {v w : ByteArray} {P : List ByteArray} {s0 st : TS} {vis : ByteArray → TS → TS} (i0 : Inv E G s0) (m : Mid E own G v P s0 st) (h0 : s0.num v = none) (hG : ∀ g, g ∈ G → Rch E g v) (he : E v w)
    (hb : w = v → (st.back v).getD false = true) (hz : (st.num w).getD 0 = 0 → st.num w = none) (hvis : st.num w = none → (∀ g, g ∈ v :: G → Rch E g w) → Post E (v :: G) w st (vis w st)) :
    Mid E own G v (P ++ [w]) s0 (restF vis v w st) := by
  obtain ⟨X, hX, hx⟩ := m.way
  have hv : st.num v ≠ none := by rw [m.num]; simp
  have old1 : ∀ s, s0.num s ≠ none → st.num s ≠ none := fun s hs => by rw [(m.old s hs).1]; exact hs
  have hsub : ∀ y, y ∈ s0.way → y ∈ st.way := fun y hy => by rw [hX]; exact List.mem_append_left _ hy
  unfold restF
  split
  · rename_i hw0
    have hw := hz hw0
    have hwv : w ≠ v := fun e => hv (by rw [← e]; exact hw)
    have p := hvis hw (fun g hg => by
      rcases List.mem_cons.1 hg with h | h
      · rw [h]; exact .one he
      · exact (hG g h).trans (.one he))
    generalize vis w st = s2 at p ⊢
    show Mid E own G v (P ++ [w]) s0 (lowF v (lwV s2 w) s2)
    obtain ⟨X2, hX2, hx2⟩ := p.way
    have hlow2 : lwV s2 v = lwV st v := by unfold lwV; rw [(p.old v hv).2.1]
    have hnum2 : s2.num v = some (s0.cnt + 1) := by rw [(p.old v hv).1]; exact m.num
    refine ⟨p.inv.low v _, fun s hs => ?_, Nat.le_trans m.cnt p.cnt, fun s n hs hn => ?_, hnum2, ⟨X ++ X2, ?_, fun x hxX => ?_⟩, fun hl => ?_, fun u hu ho => ?_⟩
    · have hne : s ≠ v := fun e => hs (by rw [e]; exact h0)
      obtain ⟨a, b, c⟩ := m.old s hs
      obtain ⟨a2, b2, c2⟩ := p.old s (old1 s hs)
      refine ⟨a2.trans a, ?_, c2.trans c⟩
      show fset s2.low v _ s = _
      rw [fset_other _ _ hne]
      exact b2.trans b
    · by_cases h1 : st.num s = none
      · have := p.new s n h1 hn
        have := m.cnt
        omega
      · have hn : s2.num s = some n := hn
        rw [(p.old s h1).1] at hn
        exact m.new s n hs hn
    · show s2.way = _
      rw [hX2, hX, List.append_assoc, List.cons_append]
    · rcases List.mem_append.1 hxX with h | h
      · obtain ⟨a, b, c, d⟩ := hx x h
        refine ⟨a, b, c, fun y hy hyw => ?_⟩
        rw [lwV_low, hlow2]
        have := d y hy hyw
        have e : nmV s2 y = nmV st y := by unfold nmV; rw [(p.old y (m.inv.way y (hsub y hyw))).1]
        show _ ≤ nmV s2 y
        omega
      · obtain ⟨b, c, d⟩ := hx2 x h
        refine ⟨fun e => hv (by rw [← e]; exact b), ?_, Rch.head he c, fun y hy hyw => ?_⟩
        · apply Classical.byContradiction
          intro k
          exact old1 x k b
        · rw [lwV_low]
          have := d y hy (hsub y hyw)
          show _ ≤ nmV s2 y
          omega
    · rw [lwV_low, hlow2] at hl ⊢
      show ∃ y, y ∈ s0.way ∧ Rch E v y ∧ s2.num y = _
      by_cases hc : lwV st v ≤ lwV s2 w
      · rw [Nat.min_eq_left hc] at hl ⊢
        obtain ⟨y, hy, hr, hn⟩ := m.low hl
        exact ⟨y, hy, hr, by rw [(p.old y (m.inv.way y (hsub y hy))).1]; exact hn⟩
      · rw [Nat.min_eq_right (by omega)] at hl ⊢
        obtain ⟨n, hn⟩ := p.num
        have h2 := p.new w n hw hn
        have h3 := m.cnt
        obtain ⟨y, hy, hr, hyn⟩ := p.low (by unfold nmV; rw [hn]; simp; omega)
        refine ⟨y, ?_, Rch.head he hr, hyn⟩
        rw [hX] at hy
        rcases List.mem_append.1 hy with h | h
        · exact h
        · rcases List.mem_cons.1 h with h | h
          · rw [h, hnum2] at hyn
            have := Option.some.inj hyn
            omega
          · have hyst : st.num y ≠ none := m.inv.way y (by rw [hX]; exact List.mem_append_right _ (List.mem_cons_of_mem _ h))
            rw [(p.old y hyst).1] at hyn
            have := m.new y _ (hx y h).2.1 hyn
            omega
    · rw [lwV_low, hlow2]
      rcases List.mem_append.1 hu with h | h
      · obtain ⟨a, b, c⟩ := m.vis u h ho
        have hn : s2.num u = st.num u := (p.old u a).1
        refine ⟨by show s2.num u ≠ none; rw [hn]; exact a, fun k => ?_, fun k => ?_⟩
        · have := b k
          have e : nmV s2 u = nmV st u := by unfold nmV; rw [hn]
          show _ ≤ nmV s2 u
          omega
        · show (s2.back v).getD false = true
          rw [(p.old v hv).2.2]
          exact c k
      · have h := List.mem_singleton.1 h
        subst h
        obtain ⟨n, hn⟩ := p.num
        exact ⟨by show s2.num u ≠ none; rw [hn]; simp, fun k => (m.inv.way u (hsub u k) hw).elim, fun k => (hwv k).elim⟩
  · rename_i hw0
    have hw : st.num w ≠ none := fun e => hw0 (by rw [e]; rfl)
    obtain ⟨n, hn⟩ := Option.ne_none_iff_exists'.1 hw
    split
    · rename_i hon
      have hwy := (m.inv.on w).1 hon
      have hnn : (st.num w).getD 0 = n := by rw [hn]; rfl
      rw [hnn]
      refine ⟨m.inv.low v _, fun s hs => ?_, m.cnt, m.new, m.num, ⟨X, hX, fun x hxX => ?_⟩, fun hl => ?_, fun u hu ho => ?_⟩
      · have hne : s ≠ v := fun e => hs (by rw [e]; exact h0)
        obtain ⟨a, b, c⟩ := m.old s hs
        refine ⟨a, ?_, c⟩
        show fset st.low v _ s = _
        rw [fset_other _ _ hne]
        exact b
      · obtain ⟨a, b, c, d⟩ := hx x hxX
        refine ⟨a, b, c, fun y hy hyw => ?_⟩
        rw [lwV_low]
        have := d y hy hyw
        show _ ≤ nmV st y
        omega
      · rw [lwV_low] at hl ⊢
        show ∃ y, y ∈ s0.way ∧ Rch E v y ∧ st.num y = _
        by_cases hc : lwV st v ≤ n
        · rw [Nat.min_eq_left hc] at hl ⊢
          exact m.low hl
        · rw [Nat.min_eq_right (by omega)] at hl ⊢
          refine ⟨w, ?_, .one he, hn⟩
          rw [hX] at hwy
          rcases List.mem_append.1 hwy with h | h
          · exact h
          · rcases List.mem_cons.1 h with h | h
            · rw [h, m.num] at hn
              have := Option.some.inj hn
              omega
            · have := m.new w _ (hx w h).2.1 hn
              omega
      · rw [lwV_low]
        rcases List.mem_append.1 hu with h | h
        · obtain ⟨a, b, c⟩ := m.vis u h ho
          refine ⟨a, fun k => ?_, c⟩
          have := b k
          show _ ≤ nmV st u
          omega
        · have h := List.mem_singleton.1 h
          subst h
          refine ⟨hw, fun k => ?_, hb⟩
          show _ ≤ (st.num u).getD 0
          rw [hnn]
          omega
    · rename_i hon
      refine ⟨m.inv, m.old, m.cnt, m.new, m.num, m.way, m.low, fun u hu ho => ?_⟩
      rcases List.mem_append.1 hu with h | h
      · exact m.vis u h ho
      · have h := List.mem_singleton.1 h
        subst h
        exact ⟨hw, fun k => (hon ((m.inv.on u).2 (hsub u k))).elim, hb⟩
theorem Mid.keepIt {own : ByteArray → Bool} {succ : ByteArray → List ByteArray} {G : List ByteArray} {v : ByteArray} {s0 st : TS} (hE : ∀ a b, E a b ↔ b ∈ succ a ∧ own b = true) (i0 : Inv E G s0) (m : Mid E own G v (succ v) s0 st) (hl : lwV st v < nmV st v) : Post E G v s0 st := by
  obtain ⟨X, hX, hx⟩ := m.way
  have hnv : nmV st v = s0.cnt + 1 := by unfold nmV; rw [m.num]; rfl
  have i := m.inv
  have hvw : v ∈ st.way := i.gr v (by simp)
  have vis : ∀ y, E v y → st.num y ≠ none ∧ (y ∈ s0.way → lwV st v ≤ nmV st y) ∧ (y = v → (st.back v).getD false = true) := fun y hy => m.vis y ((hE v y).1 hy).1 ((hE v y).1 hy).2
  obtain ⟨y0, hy0, hr0, hn0⟩ := m.low (by omega)
  obtain ⟨g0, hg0, hr1⟩ := i0.rg y0 hy0
  refine ⟨⟨i.le, i.way, i.on, fun g hg => i.gr g (List.mem_cons_of_mem _ hg), i.cl, fun x hx1 hxg y hy => ?_, fun x hxw => ?_, i.b0, i.bc, i.bw, fun x hxw hxg hxx => ?_⟩, m.old, m.cnt, m.new, ⟨_, m.num⟩, ⟨v :: X, hX, fun x hxX => ?_⟩, fun _ => ⟨y0, hy0, hr0, hn0⟩⟩
  · by_cases e : x = v
    · subst e; exact (vis y hy).1
    · exact i.bl x hx1 (by simp [e, hxg]) y hy
  · obtain ⟨g, hg, r⟩ := i.rg x hxw
    rcases List.mem_cons.1 hg with h | h
    · rw [h] at r
      exact ⟨g0, hg0, (r.trans hr0).trans hr1⟩
    · exact ⟨g, h, r⟩
  · by_cases e : x = v
    · subst e; exact (vis x hxx).2.2 rfl
    · exact i.bb x hxw (by simp [e, hxg]) hxx
  · rcases List.mem_cons.1 hxX with h | h
    · subst h
      refine ⟨?_, .refl x, fun y hy hyw => (vis y hy).2.1 hyw⟩
      cases hh : s0.num x with
      | none => rfl
      | some n =>
        have h1 := (m.old x (by rw [hh]; simp)).1
        rw [hh, m.num] at h1
        have := Option.some.inj h1
        have := (i0.le x n hh).2
        omega
    · exact (hx x h).2
open Classical in
theorem off_on (big : Bool) (x : ByteArray) (l : List ByteArray) : ∀ st : TS, ((l.foldl (offF big) st).on x).getD false = (if x ∈ l then false else (st.on x).getD false) ∧ ((l.foldl (offF big) st).back x).getD false = (if x ∈ l then ((st.back x).getD false || big) else (st.back x).getD false) ∧ (x ∉ l → (l.foldl (offF big) st).back x = st.back x) := by
  induction l with
  | nil => intro st; simp
  | cons y l ih =>
    intro st
    rw [List.foldl_cons]
    obtain ⟨a, b, c⟩ := ih (offF big st y)
    rw [a, b]
    by_cases e : x = y
    · subst e
      have e1 : ((offF big st x).on x) = some false := fset_same _ _ _
      have e2 : ((offF big st x).back x) = some ((st.back x).getD false || big) := fset_same _ _ _
      rw [e1, e2]
      refine ⟨by simp, by by_cases hm : x ∈ l <;> simp [hm], fun h => (h (by simp)).elim⟩
    · have e1 : ((offF big st y).on x) = st.on x := fset_other _ _ e
      have e2 : ((offF big st y).back x) = st.back x := fset_other _ _ e
      rw [e1, e2]
      refine ⟨by simp [e], by simp [e], fun h => ?_⟩
      rw [c (fun k => h (List.mem_cons_of_mem _ k)), e2]
open Classical in
theorem Mid.popIt {own : ByteArray → Bool} {succ : ByteArray → List ByteArray} {G : List ByteArray} {v : ByteArray} {s0 st : TS} (hE : ∀ a b, E a b ↔ b ∈ succ a ∧ own b = true) (i0 : Inv E G s0) (m : Mid E own G v (succ v) s0 st) (h0 : s0.num v = none) (hG : ∀ g, g ∈ G → Rch E g v) (hl : ¬ lwV st v < nmV st v) : Post E G v s0 (popF v st) := by
  obtain ⟨X, hX, hx⟩ := m.way
  have hnv : nmV st v = s0.cnt + 1 := by unfold nmV; rw [m.num]; rfl
  have i := m.inv
  have hvw : v ∈ st.way := i.gr v (by simp)
  have vis : ∀ y, E v y → st.num y ≠ none ∧ (y ∈ s0.way → lwV st v ≤ nmV st y) ∧ (y = v → (st.back v).getD false = true) := fun y hy => m.vis y ((hE v y).1 hy).1 ((hE v y).1 hy).2
  have hvs : v ∉ s0.way := fun h => i0.way v h h0
  obtain ⟨e1, e2, e3⟩ := popK_of (a := s0.way) (v := v) (b := st.way) ⟨X, by rw [hX]; simp⟩ hvs rfl
  have hdrop : st.way.drop (popK v st) = v :: X := by rw [e1, hX]; simp
  have hbig : decide (1 < st.way.length - popK v st) = decide (1 < (v :: X).length) := by rw [← hdrop, List.length_drop]
  have hway : (popF v st).way = s0.way := by rw [popF_way, e1, e2]
  have hnum := popF_num v st
  have hlow := popF_low v st
  have hcnt := popF_cnt v st
  have hoff := fun x => off_on (decide (1 < (v :: X).length)) x (v :: X) st
  have hon : ∀ x, ((popF v st).on x).getD false = (if x ∈ v :: X then false else (st.on x).getD false) := by
    intro x
    rw [← (hoff x).1]
    unfold popF
    rw [hdrop, hbig]
  have hbk : ∀ x, ((popF v st).back x).getD false = (if x ∈ v :: X then ((st.back x).getD false || decide (1 < (v :: X).length)) else (st.back x).getD false) := by
    intro x
    rw [← (hoff x).2.1]
    unfold popF
    rw [hdrop, hbig]
  have hbo : ∀ x, x ∉ v :: X → (popF v st).back x = st.back x := by
    intro x hh
    rw [← (hoff x).2.2 hh]
    unfold popF
    rw [hdrop, hbig]
  have hnew : ∀ x, x ∈ v :: X → s0.num x = none := by
    intro x h
    rcases List.mem_cons.1 h with h | h
    · rw [h]; exact h0
    · exact (hx x h).2.1
  have hdis : ∀ x, x ∈ s0.way → x ∉ v :: X := fun x h k => i0.way x h (hnew x k)
  have hmem : ∀ x, x ∈ st.way ↔ x ∈ s0.way ∨ x ∈ v :: X := fun x => by rw [hX]; exact List.mem_append
  have hlt : ∀ y, y ∈ s0.way → ¬ lwV st v ≤ nmV st y := by
    intro y hy
    obtain ⟨n, hn⟩ := Option.ne_none_iff_exists'.1 (i0.way y hy)
    have := (i0.le y n hn).2
    have e : nmV st y = n := by unfold nmV; rw [(m.old y (i0.way y hy)).1, hn]; rfl
    omega
  have hblk : ∀ x, st.num x ≠ none → x ∉ G → ∀ y, E x y → st.num y ≠ none := by
    intro x hx1 hxg y hy
    by_cases e : x = v
    · subst e; exact (vis y hy).1
    · exact i.bl x hx1 (by simp [e, hxg]) y hy
  have hrv : ∀ x, x ∈ st.way → Rch E x v := by
    intro x h
    obtain ⟨g, hg, r⟩ := i.rg x h
    rcases List.mem_cons.1 hg with h | h
    · rw [h] at r; exact r
    · exact r.trans (hG g h)
  refine ⟨⟨fun s n hs => ?_, fun x hxw => ?_, fun x => ?_, fun g hg => ?_, fun x hx1 hxw y hy => ?_, fun x hx1 hxg y hy => ?_, fun x hxw => ?_, fun x hx0 => ?_, fun x hx1 hxw => ?_, fun x hxw hb => ?_, fun x hxw hxg hxx => ?_⟩, fun s hs => ?_, by rw [hcnt]; exact m.cnt, fun s n hs hn => by rw [hnum] at hn; exact m.new s n hs hn, ⟨_, by rw [hnum]; exact m.num⟩, ⟨[], by rw [hway]; simp, fun x hxX => by simp at hxX⟩, fun hlt => ?_⟩
  · rw [hnum] at hs; rw [hcnt]; exact i.le s n hs
  · rw [hnum]; rw [hway] at hxw; exact i.way x ((hmem x).2 (.inl hxw))
  · rw [hon, hway]
    by_cases h : x ∈ v :: X
    · rw [if_pos h]
      exact ⟨fun k => (by cases k), fun k => (hdis x k h).elim⟩
    · rw [if_neg h, i.on x, hmem]
      exact ⟨fun k => k.resolve_right h, .inl⟩
  · rw [hway]; exact i0.gr g hg
  · rw [hnum] at hx1 ⊢
    rw [hway] at hxw ⊢
    by_cases h : x ∈ v :: X
    · have hxg : x ∉ G := fun k => hxw (i0.gr x k)
      refine ⟨hblk x hx1 hxg y hy, fun hys => hlt y hys ?_⟩
      rcases List.mem_cons.1 h with h | h
      · subst h; exact (vis y hy).2.1 hys
      · exact (hx x h).2.2.2 y hy hys
    · obtain ⟨a, b⟩ := i.cl x hx1 (fun k => ((hmem x).1 k).elim hxw h) y hy
      exact ⟨a, fun k => b ((hmem y).2 (.inl k))⟩
  · rw [hnum] at hx1 ⊢
    exact hblk x hx1 hxg y hy
  · rw [hway] at hxw; exact i0.rg x hxw
  · rw [hnum] at hx0
    rw [hbk, if_neg (fun k => i.way x ((hmem x).2 (.inr k)) hx0)]
    exact i.b0 x hx0
  · rw [hnum] at hx1
    rw [hway] at hxw
    rw [hbk]
    by_cases h : x ∈ v :: X
    · rw [if_pos h]
      by_cases hb : 1 < (v :: X).length
      · rw [decide_eq_true hb, Bool.or_true]
        refine ⟨fun _ => ?_, fun _ => rfl⟩
        by_cases e : x = v
        · subst e
          obtain ⟨z, hz⟩ : ∃ z, z ∈ X := by
            cases X with
            | nil => simp at hb
            | cons z X => exact ⟨z, by simp⟩
          exact OnC.of (hx z hz).2.2.1 (hrv z ((hmem z).2 (.inr (List.mem_cons_of_mem _ hz)))) (fun e => (hx z hz).1 e.symm)
        · have hxX : x ∈ X := (List.mem_cons.1 h).resolve_left e
          exact OnC.of (hrv x ((hmem x).2 (.inr h))) (hx x hxX).2.2.1 e
      · rw [decide_eq_false hb, Bool.or_false]
        have hX0 : X = [] := by
          cases X with
          | nil => rfl
          | cons z X => simp at hb
        subst hX0
        have e : x = v := by simpa using h
        subst e
        refine ⟨fun k => ⟨x, i.bw x hvw k, .refl x⟩, ?_⟩
        rintro ⟨u, hu, r⟩
        obtain ⟨a, b, c⟩ := vis u hu
        by_cases hus : u ∈ st.way
        · rcases (hmem u).1 hus with k | k
          · exact (hlt u k (b k)).elim
          · exact c (by simpa using k)
        · exact ((i.cl_rch r a hus).2 hvw).elim
    · rw [if_neg h]
      exact i.bc x hx1 (fun k => ((hmem x).1 k).elim hxw h)
  · rw [hway] at hxw
    rw [hbk, if_neg (hdis x hxw)] at hb
    exact i.bw x ((hmem x).2 (.inl hxw)) hb
  · rw [hway] at hxw
    rw [hbk, if_neg (hdis x hxw)]
    exact i.bb x ((hmem x).2 (.inl hxw)) (fun k => by
      rcases List.mem_cons.1 k with k | k
      · exact hvs (by rw [← k]; exact hxw)
      · exact hxg k) hxx
  · have hns : s ∉ v :: X := fun k => hs (hnew s k)
    rw [hnum, hlow, hbo s hns]
    exact m.old s hs
  · unfold lwV nmV at hlt hl
    rw [hlow, hnum] at hlt
    exact (hl hlt).elim
end
section
variable {own : ByteArray → Bool} {succ : ByteArray → List ByteArray} {names : List ByteArray}
def Edge (own : ByteArray → Bool) (succ : ByteArray → List ByteArray) (a b : ByteArray) : Prop := b ∈ succ a ∧ own b = true
theorem fold_mid (hn : names.Nodup) (hown : ∀ s, own s = true → s ∈ names) {f : Nat} (hvis : ∀ (v : ByteArray) (G : List ByteArray) (st : TS), GoodS names st → Inv (Edge own succ) G st → v ∈ names → st.num v = Option.none → Sx.unn names st ≤ f → (∀ g, g ∈ G → Rch (Edge own succ) g v) → Post (Edge own succ) G v st (visitF own succ f v st))
    {v : ByteArray} {G : List ByteArray} {s0 : TS} (i0 : Inv (Edge own succ) G s0) (h0 : s0.num v = Option.none) (hG : ∀ g, g ∈ G → Rch (Edge own succ) g v) :
    ∀ (l P : List ByteArray) (st : TS), (∀ w, w ∈ l → w ∈ succ v) → GoodS names st → Sx.unn names st ≤ f → Mid (Edge own succ) own G v P s0 st → Mid (Edge own succ) own G v (P ++ l) s0 (l.foldl (stepF own (visitF own succ f) v) st)
  | [], P, st, hl, g, hu, m => by simpa using m
  | w :: l, P, st, hl, g, hu, m => by
    rw [List.foldl_cons, show P ++ w :: l = (P ++ [w]) ++ l by simp]
    have hok := stepF_ok hown (visitF_ok hn hown succ f) (v := v) (w := w) g hu
    refine fold_mid hn hown hvis i0 h0 hG l (P ++ [w]) _ (fun u hu => hl u (List.mem_cons_of_mem _ hu)) hok.1 (Nat.le_trans hok.unn hu) ?_
    unfold stepF
    split
    · rename_i ho
      have he : Edge own succ v w := ⟨hl w (by simp), ho⟩
      obtain ⟨m1, hb⟩ := m.self (w := w) h0 (fun e => by rw [e] at he; exact he)
      have g1 := g.self v w
      have hu1 : Sx.unn names (selfF v w st) ≤ f := by unfold Sx.unn; rw [(selfF_num v w st).1]; exact hu
      exact m1.rest i0 h0 hG he hb (fun hz => g1.none hz) (fun hw hG2 => hvis w (v :: G) _ g1 m1.inv (hown w ho) hw hu1 hG2)
    · rename_i ho
      refine ⟨m.inv, m.old, m.cnt, m.new, m.num, m.way, m.low, fun u hu ho2 => ?_⟩
      rcases List.mem_append.1 hu with h | h
      · exact m.vis u h ho2
      · rw [List.mem_singleton.1 h] at ho2
        exact (ho ho2).elim
theorem visit_post (hn : names.Nodup) (hown : ∀ s, own s = true → s ∈ names) : ∀ (f : Nat) (v : ByteArray) (G : List ByteArray) (st : TS), GoodS names st → Inv (Edge own succ) G st → v ∈ names → st.num v = Option.none → Sx.unn names st ≤ f → (∀ g, g ∈ G → Rch (Edge own succ) g v) → Post (Edge own succ) G v st (visitF own succ f v st)
  | 0, v, G, st, g, i, hv, h0, hu, hG => by
    have := (g.open hn hv h0).2
    omega
  | f + 1, v, G, st, g, i, hv, h0, hu, hG => by
    obtain ⟨g1, hu1⟩ := g.open hn hv h0
    have m := fold_mid hn hown (visit_post hn hown f) i h0 hG (succ v) [] _ (fun _ h => h) g1 (by omega) (Mid.start i h0)
    rw [List.nil_append] at m
    unfold visitF
    split
    · rename_i hl
      exact m.keepIt (fun a b => Iff.rfl) i hl
    · rename_i hl
      exact m.popIt (fun a b => Iff.rfl) i h0 hG hl
theorem inv0 (E : ByteArray → ByteArray → Prop) : Inv E [] ts0 := by
  refine ⟨fun s n hs => (by cases hs), fun x hx => by simp [ts0] at hx, fun x => by simp [ts0], fun g hg => by simp at hg, fun x hx => (hx rfl).elim, fun x hx => (hx rfl).elim, fun x hx => by simp [ts0] at hx, fun x hx => rfl, fun x hx => (hx rfl).elim, fun x hx => by simp [ts0] at hx, fun x hx => by simp [ts0] at hx⟩
/-- Ahead of and behind each of the outer rounds. -/
structure Top (own : ByteArray → Bool) (succ : ByteArray → List ByteArray) (names : List ByteArray) (P : List ByteArray) (st : TS) : Prop where
  good : GoodS names st
  inv : Inv (Edge own succ) [] st
  way : st.way = []
  vis : ∀ s, s ∈ P → st.num s ≠ Option.none
theorem topF_top (hn : names.Nodup) (hown : ∀ s, own s = true → s ∈ names) {P : List ByteArray} {st : TS} (t : Top own succ names P st) {v : ByteArray} (hv : v ∈ names) : Top own succ names (P ++ [v]) (topF own succ names.length st v) := by
  have hu : Sx.unn names st ≤ names.length := List.length_filter_le _ _
  unfold topF
  split
  · rename_i h
    have h0 := t.good.none h
    have p := visit_post hn hown names.length v [] st t.good t.inv hv h0 hu (fun g hg => by simp at hg)
    have k := visitF_ok hn hown succ names.length v st t.good hv h0 hu
    refine ⟨k.1, p.inv, ?_, fun s hs => ?_⟩
    · cases hw : (visitF own succ names.length v st).way with
      | nil => rfl
      | cons x l =>
        obtain ⟨g, hg, _⟩ := p.inv.rg x (by rw [hw]; simp)
        simp at hg
    · rcases List.mem_append.1 hs with h | h
      · rw [(p.old s (t.vis s h)).1]; exact t.vis s h
      · rw [List.mem_singleton.1 h]
        obtain ⟨n, hn⟩ := p.num
        rw [hn]; simp
  · rename_i h
    refine ⟨t.good, t.inv, t.way, fun s hs => ?_⟩
    rcases List.mem_append.1 hs with k | k
    · exact t.vis s k
    · rw [List.mem_singleton.1 k]
      intro e
      exact h (by rw [e]; rfl)
theorem top0 (names : List ByteArray) : Top own succ names [] ts0 := ⟨good0 names, inv0 _, rfl, fun s hs => by simp at hs⟩
theorem top_all (hn : names.Nodup) (hown : ∀ s, own s = true → s ∈ names) : ∀ (l P : List ByteArray) (st : TS), (∀ s, s ∈ l → s ∈ names) → Top own succ names P st → Top own succ names (P ++ l) (l.foldl (topF own succ names.length) st)
  | [], P, st, hl, t => by simpa using t
  | w :: l, P, st, hl, t => by
    rw [List.foldl_cons, show P ++ w :: l = (P ++ [w]) ++ l by simp]
    exact top_all hn hown l _ _ (fun s hs => hl s (List.mem_cons_of_mem _ hs)) (topF_top hn hown t (hl w (by simp)))
theorem OnC.isOwn {v : ByteArray} (h : OnC (Edge own succ) v) : own v = true := by
  obtain ⟨y, e, r⟩ := h
  have key : ∀ a b, Rch (Edge own succ) a b → own a = true → own b = true := by
    intro a b r
    induction r with
    | refl => exact id
    | head e _ ih => exact fun _ => ih e.2
  exact key _ _ r e.2
/-- The marks: just the names on a cycle. -/
theorem turnF_back (hn : names.Nodup) (hown : ∀ s, own s = true → s ∈ names) (s : ByteArray) : ((turnF own succ names).back s).getD false = true ↔ OnC (Edge own succ) s := by
  have t : Top own succ names ([] ++ names) (turnF own succ names) := top_all hn hown names [] ts0 (fun _ h => h) (top0 names)
  rw [List.nil_append] at t
  by_cases h : (turnF own succ names).num s = Option.none
  · rw [t.inv.b0 s h]
    refine ⟨fun k => (by cases k), fun k => ?_⟩
    exact (t.vis s (hown s k.isOwn) h).elim
  · exact t.inv.bc s h (by rw [t.way]; simp)
end
end Go.Sx

set_option linter.unusedVariables false
set_option maxRecDepth 100000
namespace Go.Sx
open Go.Proofs
theorem nodup_le {α : Type} [DecidableEq α] : ∀ (l m : List α), l.Nodup → (∀ x, x ∈ l → x ∈ m) → l.length ≤ m.length
  | [], m, _, _ => by simp
  | x :: l, m, hn, hs => by
    obtain ⟨h1, h2⟩ := List.nodup_cons.1 hn
    have hx := hs x (by simp)
    have := nodup_le l (m.erase x) h2 (fun y hy => (List.mem_erase_of_ne (fun e => h1 (by rw [← e]; exact hy))).2 (hs y (List.mem_cons_of_mem _ hy)))
    rw [List.length_erase_of_mem hx] at this
    have hp := List.length_pos_of_mem hx
    simp only [List.length_cons]
    omega
theorem putS_congr {of og : ByteArray → Option Lin} {x : Lin} (h : ∀ t, t ∈ x.terms → of t.1 = og t.1) : putS of x = putS og x := by
  have h1 : x.terms.flatMap (xpd of) = x.terms.flatMap (xpd og) := by
    have : ∀ l : Tms, (∀ t, t ∈ l → of t.1 = og t.1) → l.flatMap (xpd of) = l.flatMap (xpd og) := by
      intro l
      induction l with
      | nil => intro _; rfl
      | cons t l ih =>
        intro hl
        rw [List.flatMap_cons, List.flatMap_cons, ih (fun u hu => hl u (List.mem_cons_of_mem _ hu))]
        congr 1
        unfold xpd
        rw [hl t (by simp)]
    exact this _ h
  have h2 : x.terms.foldl (xnum of) x.num = x.terms.foldl (xnum og) x.num := by
    have : ∀ (l : Tms) (n : Nat), (∀ t, t ∈ l → of t.1 = og t.1) → l.foldl (xnum of) n = l.foldl (xnum og) n := by
      intro l
      induction l with
      | nil => intro n _; rfl
      | cons t l ih =>
        intro n hl
        rw [List.foldl_cons, List.foldl_cons, ih _ (fun u hu => hl u (List.mem_cons_of_mem _ hu))]
        congr 1
        unfold xnum
        rw [hl t (by simp)]
    exact this _ _ h
  unfold putS
  rw [h1, h2]
section
variable (own : ByteArray → Bool) (lin : ByteArray → Lin)
def succL : ByteArray → List ByteArray := fun v => (lin v).terms.map (·.1)
def solP : Nat → ByteArray → Lin
  | 0, v => lin v
  | f + 1, v => putS (fun s => if own s = true then some (solP f s) else none) (lin v)
end
/-- Of a height: all ways down end. -/
def Hg (E : ByteArray → ByteArray → Prop) : Nat → ByteArray → Prop
  | 0, _ => False
  | k + 1, v => ∀ y, E v y → Hg E k y
theorem hg_ind {E : ByteArray → ByteArray → Prop} {Q : ByteArray → Prop} (h : ∀ v, (∀ y, E v y → Q y) → Q v) : ∀ k v, Hg E k v → Q v
  | 0, v, hv => hv.elim
  | k + 1, v, hv => h v fun y hy => hg_ind h k y (hv y hy)
section
variable {own : ByteArray → Bool} {lin : ByteArray → Lin} {names : List ByteArray}
theorem mem_succL {v s : ByteArray} : s ∈ succL lin v ↔ ∃ t, t ∈ (lin v).terms ∧ t.1 = s := by simp [succL]
theorem solP_stable : ∀ (f g : Nat) (v : ByteArray), Hg (Edge own (succL lin)) f v → f ≤ g → solP own lin f v = solP own lin g v
  | 0, g, v, h, _ => h.elim
  | f + 1, 0, v, h, hfg => by omega
  | f + 1, g + 1, v, h, hfg => by
    unfold solP
    refine putS_congr fun t ht => ?_
    show (if own t.1 = true then some (solP own lin f t.1) else none) = if own t.1 = true then some (solP own lin g t.1) else none
    by_cases ho : own t.1 = true
    · rw [if_pos ho, if_pos ho, solP_stable f g t.1 (h t.1 ⟨mem_succL.2 ⟨t, ht, rfl⟩, ho⟩) (by omega)]
    · rw [if_neg ho, if_neg ho]
theorem hg_of {E : ByteArray → ByteArray → Prop} (hE : ∀ a b, E a b → b ∈ names) (hc : ∀ v, ¬ OnC E v) : ∀ (f : Nat) (path : List ByteArray) (v : ByteArray), path.Nodup → (∀ p, p ∈ path → p ∈ names) → (∀ p, p ∈ path → ∃ y, E p y ∧ Rch E y v) → v ∈ names → names.length ≤ path.length + f → Hg E f v := by
  have key : ∀ (path : List ByteArray) (v : ByteArray), (∀ p, p ∈ path → ∃ y, E p y ∧ Rch E y v) → v ∉ path := fun path v h hv => hc v (h v hv)
  intro f
  induction f with
  | zero =>
    intro path v hn hp hr hv hl
    have hvp := key path v hr
    have := nodup_le (v :: path) names (List.nodup_cons.2 ⟨hvp, hn⟩) (fun x hx => by
      rcases List.mem_cons.1 hx with h | h
      · rw [h]; exact hv
      · exact hp x h)
    simp only [List.length_cons] at this
    omega
  | succ f ih =>
    intro path v hn hp hr hv hl y hy
    have hvp := key path v hr
    refine ih (v :: path) y (List.nodup_cons.2 ⟨hvp, hn⟩) (fun x hx => ?_) (fun p hpp => ?_) (hE v y hy) (by simp only [List.length_cons]; omega)
    · rcases List.mem_cons.1 hx with h | h
      · rw [h]; exact hv
      · exact hp x h
    · rcases List.mem_cons.1 hpp with h | h
      · rw [h]; exact ⟨y, hy, .refl y⟩
      · obtain ⟨z, hz, r⟩ := hr p h
        exact ⟨z, hz, r.trans (.one hy)⟩
/-- A name's solution. -/
def sol (own : ByteArray → Bool) (lin : ByteArray → Lin) (names : List ByteArray) (v : ByteArray) : Lin := solP own lin names.length v
def solO (own : ByteArray → Bool) (lin : ByteArray → Lin) (names : List ByteArray) (s : ByteArray) : Option Lin := if own s = true then some (sol own lin names s) else none
theorem hg_all (hown : ∀ s, own s = true ↔ s ∈ names) (hc : ∀ v, ¬ OnC (Edge own (succL lin)) v) {v : ByteArray} (hv : v ∈ names) : Hg (Edge own (succL lin)) names.length v :=
  hg_of (fun a b e => (hown b).1 e.2) hc names.length [] v List.nodup_nil (fun p hp => by simp at hp) (fun p hp => by simp at hp) hv (by simp)
theorem sol_eq (hown : ∀ s, own s = true ↔ s ∈ names) (hc : ∀ v, ¬ OnC (Edge own (succL lin)) v) {v : ByteArray} (hv : v ∈ names) : sol own lin names v = putS (solO own lin names) (lin v) := by
  have hg := hg_all hown hc hv
  unfold sol
  cases hN : names.length with
  | zero => rw [hN] at hg; exact hg.elim
  | succ n =>
    rw [hN] at hg
    unfold solP
    refine putS_congr fun t ht => ?_
    unfold solO sol
    by_cases ho : own t.1 = true
    · rw [if_pos ho, if_pos ho, hN, solP_stable n (n + 1) t.1 (hg t.1 ⟨mem_succL.2 ⟨t, ht, rfl⟩, ho⟩) (by omega)]
    · rw [if_neg ho, if_neg ho]
theorem sol_ind (hown : ∀ s, own s = true ↔ s ∈ names) (hc : ∀ v, ¬ OnC (Edge own (succL lin)) v) {Q : ByteArray → Prop} (h : ∀ v, (∀ y, Edge own (succL lin) v y → Q y) → Q v) {v : ByteArray} (hv : v ∈ names) : Q v :=
  hg_ind h names.length v (hg_all hown hc hv)
end
/-! What nrm keeps. -/
theorem mem_nrm {l : Tms} {t : ByteArray × Nat} (h : t ∈ nrm l) : ∃ p, p ∈ l ∧ p.1 = t.1 := by
  apply Classical.byContradiction
  intro k
  have h0 : cf l t.1 = 0 := cf_zero fun p hp e => k ⟨p, hp, e⟩
  have h1 := cf_nrm l t.1
  rw [h0] at h1
  have nf := nrm_nf l
  generalize nrm l = m at h h1 nf
  induction m with
  | nil => simp at h
  | cons p m ih =>
    rcases List.mem_cons.1 h with h | h
    · subst h
      rw [nf.cf_head] at h1
      have := (nf.2 t (by simp)).1
      omega
    · have hl := nf.head t h
      rw [cf_cons, if_neg (ltN_ne hl)] at h1
      exact ih h (by omega) nf.tail
open Classical in
theorem valS_keys (f : ByteArray → Nat) (S : List ByteArray) (hS : S.Nodup) : ∀ l : Tms, (∀ p, p ∈ l → p.1 ∈ S) → valS f l = (S.map fun s => cf l s * f s).sum
  | [], _ => by
    have : ∀ S : List ByteArray, (S.map fun s => cf [] s * f s).sum = 0 := by
      intro S
      induction S with
      | nil => rfl
      | cons s S ih => rw [List.map_cons, List.sum_cons, ih, cf_nil]; omega
    rw [this]; rfl
  | p :: l, h => by
    have ih := valS_keys f S hS l (fun q hq => h q (List.mem_cons_of_mem _ hq))
    have hp := h p (by simp)
    rw [valS_cons, ih]
    clear ih h
    have key : ∀ S : List ByteArray, S.Nodup → (S.map fun s => cf (p :: l) s * f s).sum = (if p.1 ∈ S then p.2 * f p.1 else 0) + (S.map fun s => cf l s * f s).sum := by
      intro S
      induction S with
      | nil => intro _; simp
      | cons s S ih =>
        intro hn
        obtain ⟨h1, h2⟩ := List.nodup_cons.1 hn
        rw [List.map_cons, List.sum_cons, List.map_cons, List.sum_cons, ih h2, cf_cons]
        by_cases e : p.1 = s
        · subst e
          rw [if_pos rfl, if_neg h1, if_pos (by simp), Nat.add_mul]
          omega
        · have : (p.1 ∈ s :: S) ↔ p.1 ∈ S := by simp [e]
          rw [if_neg e, Nat.zero_add]
          simp only [this]
          omega
    rw [key S hS, if_pos hp]
theorem valS_cf {f : ByteArray → Nat} {l m : Tms} (h : ∀ s, cf l s % 4294967296 = cf m s % 4294967296) : valS f l % 4294967296 = valS f m % 4294967296 := by
  obtain ⟨S, hS, hl⟩ : ∃ S : List ByteArray, S.Nodup ∧ ∀ p, p ∈ l ++ m → p.1 ∈ S := by
    generalize l ++ m = w
    induction w with
    | nil => exact ⟨[], List.nodup_nil, by simp⟩
    | cons p w ih =>
      obtain ⟨S, hS, hw⟩ := ih
      by_cases hp : p.1 ∈ S
      · refine ⟨S, hS, fun q hq => ?_⟩
        rcases List.mem_cons.1 hq with h | h
        · rw [h]; exact hp
        · exact hw q h
      · refine ⟨p.1 :: S, List.nodup_cons.2 ⟨hp, hS⟩, fun q hq => ?_⟩
        rcases List.mem_cons.1 hq with h | h
        · rw [h]; simp
        · exact List.mem_cons_of_mem _ (hw q h)
  rw [valS_keys f S hS l (fun p hp => hl p (List.mem_append_left _ hp)), valS_keys f S hS m (fun p hp => hl p (List.mem_append_right _ hp))]
  clear hS hl
  induction S with
  | nil => rfl
  | cons s S ih =>
    rw [List.map_cons, List.sum_cons, List.map_cons, List.sum_cons, Nat.add_mod, ih, Nat.mul_mod, h s, ← Nat.mul_mod, ← Nat.add_mod]
theorem valS_nrm (f : ByteArray → Nat) (l : Tms) : valS f (nrm l) % 4294967296 = valS f l % 4294967296 := valS_cf fun s => by rw [cf_nrm, Nat.mod_mod]
def valL (f : ByteArray → Nat) (x : Lin) : Nat := (x.num + valS f x.terms) % 4294967296
theorem valS_append (f : ByteArray → Nat) (l m : Tms) : valS f (l ++ m) = valS f l + valS f m := by
  induction l with
  | nil => simp [valS]
  | cons p l ih => rw [List.cons_append, valS_cons, valS_cons, ih]; omega
theorem valS_times (f : ByteArray → Nat) (n : Nat) (l : Tms) : valS f (l.map fun u => (u.1, n * u.2 % 4294967296)) % 4294967296 = n * valS f l % 4294967296 := by
  induction l with
  | nil => simp [valS]
  | cons p l ih =>
    rw [List.map_cons, valS_cons, valS_cons, Nat.add_mod, ih, mod_mul_r, ← Nat.add_mod, Nat.mul_add, Nat.mul_assoc]
where
  mod_mul_r {a b : Nat} : a % 4294967296 * b % 4294967296 = a * b % 4294967296 := mod_mul' a b
/-- The value of a sum where names are replaced. -/
theorem valL_put {f g : ByteArray → Nat} {of : ByteArray → Option Lin} (h : ∀ s, g s % 4294967296 = (match of s with | none => f s | some y => valL f y) % 4294967296) (x : Lin) : valL f (putS of x) = valL g x := by
  unfold valL putS
  show ((x.terms.foldl (xnum of) x.num) + valS f (nrm (x.terms.flatMap (xpd of)))) % 4294967296 = (x.num + valS g x.terms) % 4294967296
  rw [Nat.add_mod, valS_nrm, ← Nat.add_mod]
  generalize x.num = n
  generalize x.terms = l
  induction l generalizing n with
  | nil => simp [valS]
  | cons t l ih =>
    rw [List.foldl_cons, List.flatMap_cons, valS_append, valS_cons]
    have e1 : (l.foldl (xnum of) (xnum of n t) + (valS f (xpd of t) + valS f (l.flatMap (xpd of)))) % 4294967296 = (valS f (xpd of t) + (xnum of n t + valS g l)) % 4294967296 := by
      rw [show l.foldl (xnum of) (xnum of n t) + (valS f (xpd of t) + valS f (l.flatMap (xpd of))) = valS f (xpd of t) + (l.foldl (xnum of) (xnum of n t) + valS f (l.flatMap (xpd of))) by omega, Nat.add_mod, ih, ← Nat.add_mod]
    rw [e1]
    have e2 : (valS f (xpd of t) + xnum of n t) % 4294967296 = (n + t.2 * g t.1) % 4294967296 := by
      have hg := h t.1
      unfold xpd xnum
      cases ho : of t.1 with
      | none =>
        rw [ho] at hg
        simp only at hg ⊢
        rw [valS_cons]
        have : t.2 * f t.1 % 4294967296 = t.2 * g t.1 % 4294967296 := by rw [Nat.mul_mod, ← hg, ← Nat.mul_mod]
        simp only [valS, Nat.add_zero]
        omega
      | some y =>
        rw [ho] at hg
        simp only at hg ⊢
        have h1 := valS_times f t.2 y.terms
        have h2 : t.2 * g t.1 % 4294967296 = t.2 * (y.num + valS f y.terms) % 4294967296 := by
          unfold valL at hg
          rw [Nat.mul_mod, hg, Nat.mod_mod, ← Nat.mul_mod]
        rw [Nat.mul_add] at h2
        omega
    omega
/-- The names in a sum where names are replaced. -/
theorem mem_put {of : ByteArray → Option Lin} {x : Lin} {t : ByteArray × Nat} (h : t ∈ (putS of x).terms) : (∃ p, p ∈ x.terms ∧ p.1 = t.1 ∧ of t.1 = none) ∨ ∃ p y u, p ∈ x.terms ∧ of p.1 = some y ∧ u ∈ y.terms ∧ u.1 = t.1 := by
  obtain ⟨p, hp, e⟩ := mem_nrm h
  obtain ⟨q, hq, hpq⟩ := List.mem_flatMap.1 hp
  unfold xpd at hpq
  cases ho : of q.1 with
  | none =>
    rw [ho] at hpq
    have : p = q := by simpa using hpq
    subst this
    exact .inl ⟨p, hq, e, by rw [← e]; exact ho⟩
  | some y =>
    rw [ho] at hpq
    obtain ⟨u, hu, rfl⟩ := List.mem_map.1 hpq
    exact .inr ⟨q, y, u, hq, ho, hu, e⟩
theorem putS_nf (of : ByteArray → Option Lin) (x : Lin) : Nf (putS of x).terms := nrm_nf _
theorem nrm_self {l : Tms} (h : Nf l) : nrm l = l := (nrm_nf l).uniq h fun s => by rw [cf_nrm, Nat.mod_mod]
theorem putS_none {of : ByteArray → Option Lin} {x : Lin} (hn : Nf x.terms) (h : ∀ t, t ∈ x.terms → of t.1 = none) : putS of x = x := by
  have h1 : ∀ l : Tms, (∀ t, t ∈ l → of t.1 = none) → l.flatMap (xpd of) = l ∧ ∀ n, l.foldl (xnum of) n = n := by
    intro l
    induction l with
    | nil => intro _; exact ⟨rfl, fun _ => rfl⟩
    | cons t l ih =>
      intro hl
      obtain ⟨a, b⟩ := ih fun u hu => hl u (List.mem_cons_of_mem _ hu)
      have ht := hl t (by simp)
      refine ⟨?_, fun n => ?_⟩
      · rw [List.flatMap_cons, a]
        unfold xpd
        rw [ht]
        rfl
      · rw [List.foldl_cons, b]
        unfold xnum
        rw [ht]
  obtain ⟨a, b⟩ := h1 x.terms h
  unfold putS
  rw [a, b, nrm_self hn]
theorem putS_num {of : ByteArray → Option Lin} {x : Lin} (hx : x.num < 4294967296) : (putS of x).num < 4294967296 := by
  show x.terms.foldl (xnum of) x.num < 4294967296
  generalize x.num = n at hx
  generalize x.terms = l
  induction l generalizing n with
  | nil => exact hx
  | cons t l ih =>
    rw [List.foldl_cons]
    refine ih _ ?_
    unfold xnum
    split
    · exact hx
    · exact Nat.mod_lt _ (by omega)
section
variable {own : ByteArray → Bool} {lin : ByteArray → Lin} {names : List ByteArray}
/-- A solution has none of the names; each of its names is one of some name's expression. -/
theorem sol_names (hown : ∀ s, own s = true ↔ s ∈ names) (hc : ∀ v, ¬ OnC (Edge own (succL lin)) v) {v : ByteArray} (hv : v ∈ names) : ∀ t, t ∈ (sol own lin names v).terms → own t.1 = false ∧ ∃ w u, w ∈ names ∧ u ∈ (lin w).terms ∧ u.1 = t.1 := by
  refine sol_ind (Q := fun v => v ∈ names → ∀ t, t ∈ (sol own lin names v).terms → own t.1 = false ∧ ∃ w u, w ∈ names ∧ u ∈ (lin w).terms ∧ u.1 = t.1) hown hc ?_ hv hv
  intro v ih hv t ht
  rw [sol_eq hown hc hv] at ht
  rcases mem_put ht with ⟨p, hp, e, ho⟩ | ⟨p, y, u, hp, ho, hu, e⟩
  · refine ⟨?_, v, p, hv, hp, e⟩
    unfold solO at ho
    cases hb : own t.1 with
    | false => rfl
    | true => rw [hb] at ho; simp at ho
  · unfold solO at ho
    by_cases hb : own p.1 = true
    · rw [if_pos hb] at ho
      have ho := Option.some.inj ho
      subst ho
      obtain ⟨a, b⟩ := ih p.1 ⟨mem_succL.2 ⟨p, hp, rfl⟩, hb⟩ ((hown _).1 hb) u hu
      rw [← e]
      exact ⟨a, b⟩
    · rw [if_neg hb] at ho; cases ho
theorem sol_nf (hown : ∀ s, own s = true ↔ s ∈ names) (hc : ∀ v, ¬ OnC (Edge own (succL lin)) v) {v : ByteArray} (hv : v ∈ names) : Nf (sol own lin names v).terms := by
  rw [sol_eq hown hc hv]; exact putS_nf _ _
end
end Go.Sx
