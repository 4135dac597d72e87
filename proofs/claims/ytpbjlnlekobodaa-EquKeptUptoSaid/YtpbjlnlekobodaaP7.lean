/- Contracts over heaps, and plain laws, for the functions that the laws of chapter 11 call, part 7: The law EquValues over heaps: it answers true. The law EquTurned over heaps: it answers true. spandrelkeep.CopyLin and the loop of CopyUnit over heaps. CopyUnit of a unit that has equs alone, over heaps: the equs are copied. Chapter 4's runs over heaps. The law ExprKept over heaps: it answers true. The law EquKept over heaps: it answers true. Condition: as each statement says. -/
import Derived.Test.YtpbjlnlekobodaaP6
import Derived.Test.YtpbjlnlekobodaaEquX
import Derived.Test.YtpbjlnlekobodaaEquY
import Derived.Test.YtpbjlnlekobodaaP3
set_option linter.unusedVariables false
set_option maxRecDepth 100000
namespace Go.Sx
open Go.Proofs
theorem VwE.at {h : Hp} {p : Option Addr} {l : Nat} {es : List EqM} (v : VwE h p l es) {i : Nat} (hi : i < es.length) : ∃ a, p = some a ∧ ∀ h', Ext h h' → cellsAt h' (a.add (i * 3)) 0 (eqV es[i]) ∧ VwT h' es[i].p es[i].l es[i].x.terms := by
  obtain ⟨a, ha, hc⟩ := v.cells i hi
  exact ⟨a, ha, fun h' e => ⟨cellsAt_keep e (by simp) _ _ hc, (v.inn _ (List.getElem_mem hi)).keep e (by simp)⟩⟩
theorem EquIn.sm {h : Hp} {p : Option Addr} {l c : Nat} {es : List EqM} {N : Nat} (hi : EquIn h p l c es N) (hN : N ≤ 2 ^ 20) (hr : RightE es) : EqsSm es := by
  have hm := hi.many
  refine ⟨⟨hr.nodup, by have := hr.len; omega, hi.names, fun e he => ?_, fun e he t ht => (hi.terms e he t ht).1⟩, by omega⟩
  have := flatMap_mem_length (fun e : EqM => e.x.terms) he
  omega
/-! The values' map, as a function. -/
def MapA (h : Hp) (g : Nat) (f : ByteArray → Option Nat) : Prop := ∃ D, MapB h g (vm D) ∧ ∀ s, getO D s = f s
theorem getO_put (D : Tms) (t : ByteArray) (v : Nat) (s : ByteArray) : getO (putN D t v) s = if s = t then some v else getO D s := by
  have e : putN D t v = pE D t v := by
    unfold putN pE gE
    rw [Option.isSome_map]
  show gE (putN D t v) s = _
  rw [e, gE_pE]
  rfl
theorem MapA.keep {ws : List Nat} {h h' : Hp} {g : Nat} {f : ByteArray → Option Nat} (m : MapA h g f) (k : Ch ws h h') (hw : g ∉ ws) : MapA h' g f := by
  obtain ⟨D, m, r⟩ := m
  exact ⟨D, m.keep k hw, r⟩
section
variable {L : Lp} {K : Value → Hp → Prop} {h : Hp}
theorem putA {g : Nat} {f : ByteArray → Option Nat} (m : MapA h g f) {s : ByteArray} (hs : s.size ≤ maxLen) (n : Nat) {k : T} (hk : ∀ h', MapA h' g (fset f s n) → Ch [g] h h' → h'.size = h.size → k L K h') :
    T.semU Try.prog (Instr.mapUpdate 31 (.map (some g)) (.string s) (.int .u32 (n : Int))) k L K h := by
  obtain ⟨D, m, r⟩ := m
  refine put_of m hs rfl ?_
  intro h' m' k' z'
  exact hk h' ⟨_, m', fun t => by rw [getO_put, r]; rfl⟩ k' z'
theorem lookA {g : Nat} {f : ByteArray → Option Nat} (m : MapA h g f) (s : ByteArray) {k : Int → T} (hk : k (((f s).getD 0 : Nat) : Int) L K h) : T.sem Try.prog (Instr.lookup 31 (.map (some g)) (.string s) false) false [(false, [.int .u32])] k L K h := by
  obtain ⟨D, m, r⟩ := m
  refine look_of m s ?_
  have : getN D s = (f s).getD 0 := by rw [← r s]; rfl
  rw [this]
  exact hk
/-- A value that is there. -/
theorem valueA {g : Nat} {f : ByteArray → Option Nat} (m : MapA h g f) {p : Option Addr} {l c : Nat} {x : Lin} (v : VwT h p l x.terms) (hl : x.terms.length ≤ 2 ^ 40) (hn : x.num < 4294967296) (ha : ∀ t, t ∈ x.terms → (f t.1).isSome = true) {k : Int → Bool → T}
    (hk : ∀ h', Ext h h' → k ((valL (fun s => (f s).getD 0) x : Nat) : Int) true L K h') : T.call Try.prog 11 [linV p l c x, .map (some g)] true [(false, [.int .u32]), (false, [.bool])] k L K h := by
  obtain ⟨D, m, r⟩ := m
  have hD : getO D = f := funext r
  refine call_of (value_hc (r := some g) (D := D) v m hl) ?_
  rintro _ h' ⟨rfl, e⟩
  refine ⟨(((valL (fun s => (f s).getD 0) x : Nat) : Int), true, ()), ?_, hk h' e⟩
  rw [hD, valN_all x.terms x.num hn ha]
  rfl
end
/-- A name behind a sign. -/
abbrev eqN (s : ByteArray) : ByteArray := (⟨#[61]⟩ : ByteArray) ++ s
theorem eqN_legal {s t : ByteArray} (h : legalL s.data.toList = true) : s ≠ eqN t := by
  intro e
  unfold legalL at h
  simp only [Bool.and_eq_true] at h
  have h1 := h.1.1.2
  rw [e] at h1
  have : (eqN t).data.toList = 61 :: t.data.toList := by simp
  rw [this] at h1
  revert h1
  simp only [List.getD_cons_zero]
  decide
theorem eqN_inj {s t : ByteArray} (h : eqN s = eqN t) : s = t := by
  have := congrArg (fun b : ByteArray => b.data.toList) h
  simp only [eqN, ByteArray.data_append, Array.toList_append] at this
  exact baExt (List.append_cancel_left this)
theorem eqN_size (s : ByteArray) : (eqN s).size = 1 + s.size := by simp [ByteArray.size_append]; rfl
theorem valS_congr {f g : ByteArray → Nat} : ∀ {l : Tms}, (∀ t, t ∈ l → f t.1 = g t.1) → valS f l = valS g l
  | [], _ => rfl
  | t :: l, h => by rw [valS_cons, valS_cons, h t (by simp), valS_congr fun u hu => h u (List.mem_cons_of_mem _ hu)]
theorem valL_congr {f g : ByteArray → Nat} {x : Lin} (h : ∀ t, t ∈ x.terms → f t.1 = g t.1) : valL f x = valL g x := by unfold valL; rw [valS_congr h]
/-- Numbers that a name's solution gives are those of its expression. -/
theorem sol_val {es : List EqM} (hc : ∀ v, ¬ OnC (edgE es) v) {v : ByteArray} (hv : v ∈ namesE es) {f g : ByteArray → Nat} (ho : ∀ s, s ∈ namesE es → g s = valL f (solE es s)) (hn : ∀ t, t ∈ (linE es v).terms → t.1 ∉ namesE es → g t.1 = f t.1) : valL f (solE es v) = valL g (linE es v) := by
  have hs : solE es v = putS (solO (ownE es) (linE es) (namesE es)) (linE es v) := sol_eq (ownE_mem es) hc hv
  rw [hs, valL_put (g := fun s => match solO (ownE es) (linE es) (namesE es) s with | none => f s | some y => valL f y) (fun s => rfl)]
  refine (valL_congr fun t ht => ?_).symm
  show g t.1 = match solO (ownE es) (linE es) (namesE es) t.1 with | none => f t.1 | some y => valL f y
  unfold solO
  by_cases hw : ownE es t.1 = true
  · rw [if_pos hw]
    exact ho _ ((ownE_mem es _).1 hw)
  · rw [if_neg hw]
    exact hn t ht fun h => hw ((ownE_mem es _).2 h)
theorem knownT {L : Lp} {K : Value → Hp → Prop} {h : Hp} (hk : ∀ h', Ext h h' → K (.bool true) h') : T.call Try.prog 8 [] false [(false, [.bool])] (fun b => T.ret (.bool b)) L K h :=
  call_boolx (known_hc h) fun h' e => hk h' e
abbrev iCs : List Comp := [(false, [.int .i64])]
theorem equValues_hc {h : Hp} {p : Option Addr} {l c : Nat} {es : List EqM} {N : Nat} (hi : EquIn h p l c es N) (hN : N ≤ 2 ^ 20) {q : Option Addr} {m d : Nat} {us : List Nat} {M : Nat} (hu : NumIn h q m us M) :
    HC Try.prog 3 #[.slice p l c, .slice q m d] h fun w h' => w = .bool true ∧ Ext h h' := by
  refine hcr_of (args := [.slice p l c, .slice q m d]) mixed Try.func3 (by kernel_rfl) (t_spandrellaw11_EquValues_eq p l c q m d) ?_
  unfold t_spandrellaw11_EquValues
  have hm := hi.many
  refine call_of (right_hc (c := c) hi.vw hi.names (fun e he => ⟨by have := flatMap_mem_length (fun e : EqM => e.x.terms) he; omega, fun t ht => (hi.terms e he t ht).1⟩)) ?_
  rintro _ h1 ⟨⟨b, rfl, hb⟩, e1⟩
  refine ⟨(b, ()), rfl, ?_⟩
  dsimp only [flat, unc, unc1, List.nil_append, List.cons_append]
  refine cond_mk (fun g1 => knownT fun h' e => ⟨rfl, e1.trans e⟩) (fun g1 => ?_)
  have hr := hb (by simpa using g1)
  have eo := hi.sm hN hr
  have hl60 := hr.len
  refine cond_mk (fun g2 => knownT fun h' e => ⟨rfl, e1.trans e⟩) (fun g2 => ?_)
  have hm0 : m ≠ 0 := fun e => by rw [e] at g2; simp at g2
  refine call_of (solveAll_hc (c := c) (hi.vw.keep e1) eo (fun i hb => by have := hi.blk i hb; have := e1.size; omega) (by omega)) ?_
  rintro _ h2 ⟨hs, e2⟩
  have e02 := e1.trans e2
  have hcyc : ∀ {h' : Hp}, Ext h h' → _ := fun {h'} e => cycle_hc (c := c) (hi.vw.keep e) eo.toEqsOk (fun i hb => by have := hi.blk i hb; have := e.size; omega)
  rcases hs with ⟨i, hil, ho, _, rfl⟩ | ⟨hc, p3, l4, l5, ms, rfl, own, hms⟩
  · refine ⟨((none, 0, 0), (i : Int), (24 : Int), ()), rfl, ?_⟩
    dsimp only [flat, unc, unc1, List.nil_append, List.cons_append]
    refine cond_t rfl ?_
    refine call_of (hcyc e02) ?_
    rintro _ h3 ⟨⟨p8, l9, l10, ks, rfl, sk, hks, _⟩, e3⟩
    refine ⟨((p8, l9, l10), ()), rfl, ?_⟩
    dsimp only [flat, unc, unc1, List.nil_append, List.cons_append]
    have hl9 : l9 = ks.length := by rw [sk.1, List.length_map]
    have hpos := List.length_pos_of_mem ((hks _).2 ho)
    refine cond_t (decide_eq_true (by omega)) (cond_t rfl ?_)
    exact knownT fun h' e => ⟨rfl, (e02.trans e3).trans e⟩
  · refine ⟨((p3, l4, l5), (0 : Int), (0 : Int), ()), rfl, ?_⟩
    dsimp only [flat, unc, unc1, List.nil_append, List.cons_append]
    refine cond_f rfl ?_
    refine call_of (hcyc e02) ?_
    rintro _ h3 ⟨⟨p8, l9, l10, ks, rfl, sk, hks, _⟩, e3⟩
    refine ⟨((p8, l9, l10), ()), rfl, ?_⟩
    dsimp only [flat, unc, unc1, List.nil_append, List.cons_append]
    have hl9 : l9 = 0 := by
      rw [sk.1, List.length_map]
      cases ks with
      | nil => rfl
      | cons s ks => exact (hc s ((hks s).1 (by simp))).elim
    subst hl9
    refine cond_f rfl ?_
    have hmsl : ms.length = es.length := by have := congrArg List.length hms; simpa using this
    have hl4 : l4 = es.length := by rw [own.out.1, List.length_map, hmsl]
    have hl := hi.vw.len
    refine cond_f (by have : (l4 : Int) = (l : Int) := by omega
                      simp [this]) ?_
    have e03 := e02.trans e3
    have own3 := own.keep e3 (by simp)
    have vm3 := vwE_own own3
    have hz3 := e03.size
    have hmk : ∀ i, (hi : i < es.length) → (hj : i < ms.length) → ms[i].name = es[i].name ∧ ms[i].x = solE es es[i].name := by
      intro i h1 h2
      have h3 : (ms.map (fun m => (m.name, m.x)))[i]? = (es.map (fun e => (e.name, solE es e.name)))[i]? := by rw [hms]
      rw [List.getElem?_map, List.getElem?_map, List.getElem?_eq_getElem h1, List.getElem?_eq_getElem h2] at h3
      have h3 := Option.some.inj h3
      exact ⟨congrArg (·.1) h3, congrArg (·.2) h3⟩
    have hnm : ∀ i, (hi : i < es.length) → es[i].name ∈ namesE es := fun i h => List.mem_map_of_mem (List.getElem_mem h)
    have hlg : ∀ s, s ∈ namesE es → legalL s.data.toList = true := by
      intro s hs
      obtain ⟨e, he, rfl⟩ := List.mem_map.1 hs
      exact hr.legal e he
    have htl : ∀ e, e ∈ es → ∀ t, t ∈ e.x.terms → legalL t.1.data.toList = true := fun e he t ht => ((rtR_ge (hr.rt e he)).1 t ht).1
    refine makeMap_of _ ?_
    intro h4 m4 e4 z4
    refine ⟨(some h3.size, ()), rfl, ?_⟩
    dsimp only [flat, unc, unc1, List.nil_append, List.cons_append]
    have a4 : MapA h4 h3.size (fun _ => none) := ⟨[], m4, fun s => rfl⟩
    refine makeF (en := eB) ?_
    intro h5 m5 e5 z5
    have a5 := a4.keep e5 (by simp)
    have e35 := e4.trans e5
    generalize hgA : h3.size = gA at *
    generalize hgO : h4.size = gO at *
    have hgo : gA < gO := by omega
    refine loop_of (cs := iCs) (fun x w h' => ∃ (i : Nat) (f : ByteArray → Option Nat) (o : ByteArray → Option Bool) (n : Nat), x.1 = (i : Int) ∧ i ≤ es.length ∧ w = es.length - i ∧ Ext h3 h' ∧ MapA h' gA f ∧ MapF eB h' gO o n ∧
        (∀ s, (o s).getD false = true → s ∈ namesE es) ∧ (∀ e, e ∈ es.take i → ∀ t, t ∈ e.x.terms → (f t.1).isSome = true))
      ((0 : Int), ()) es.length rfl ⟨0, _, _, 0, rfl, by omega, by omega, e35, a5, m5, (by simp), (by simp)⟩ ?_
    rintro ⟨n13, ⟨⟩⟩ w h6 ⟨i, f, o, n, hi0, hile, rfl, e6, a6, m6, ho6, hf6⟩
    simp only at hi0
    subst hi0
    dsimp only [flat, unc, unc1, List.nil_append, List.cons_append]
    have e06 := e03.trans e6
    have hz6 := e6.size
    refine cond_mk (fun g3 => ?_) (fun g3 => ?_)
    · have g3 := of_decide_eq_true g3
      have hilt : i < es.length := by omega
      obtain ⟨a, ha, hat⟩ := hi.vw.at hilt
      have htk : es.take (i + 1) = es.take i ++ [es[i]] := List.take_succ_eq_append_getElem hilt
      have hnme := hnm i hilt
      have hsz := hi.names es[i] (List.getElem_mem hilt)
      have htsz := hi.terms es[i] (List.getElem_mem hilt)
      have htlen : es[i].x.terms.length ≤ 2 ^ 20 := by have := flatMap_mem_length (fun e : EqM => e.x.terms) (List.getElem_mem hilt); omega
      generalize es[i] = e at hat htk hnme hsz htsz htlen
      refine need_of ⟨by omega, by omega⟩ (osome_mk ha ?_)
      rw [show Int.toNat (i : Int) = i by omega]
      refine loads_of (e.name, ()) ⟨(hat h6 e06).1.1, trivial⟩ ?_
      dsimp only [flat, unc, unc1, List.nil_append, List.cons_append]
      refine putB m6 hsz ?_
      intro h7 m7 k7 z7
      have hgoz : gO < h6.size := m6.lt
      have e37 : Ext h3 h7 := Ch.trans e6 k7 (fun j hj hl => by simp at hj; omega)
      have a7 := a6.keep k7 (by simp; omega)
      refine loop_of (cs := iCs) (fun x w h' => ∃ (k : Nat) (f' : ByteArray → Option Nat), x.1 = (k : Int) ∧ k ≤ e.x.terms.length ∧ w = e.x.terms.length - k ∧ Ch [gA] h7 h' ∧ MapA h' gA f' ∧ (∀ s, (f s).isSome = true → (f' s).isSome = true) ∧ (∀ t, t ∈ e.x.terms.take k → (f' t.1).isSome = true))
        ((0 : Int), ()) e.x.terms.length rfl ⟨0, f, rfl, by omega, by omega, Ch.refl _ _, a7, fun s h => h, by simp⟩ ?_
      rintro ⟨n16, ⟨⟩⟩ w h8 ⟨k, f', hk0, hkle, rfl, k8, a8, hsub, hf8⟩
      simp only at hk0
      subst hk0
      dsimp only [flat, unc, unc1, List.nil_append, List.cons_append]
      have e38 : Ext h3 h8 := Ch.trans e37 k8 (fun j hj hl => by simp at hj; omega)
      have e08 := e03.trans e38
      refine need_of ⟨by omega, by omega⟩ (osome_mk ha ?_)
      have hcc := (hat h8 e08).1
      have hvt := (hat h8 e08).2
      refine loads_of ((e.p, e.l, e.c), ()) ⟨by rw [add_zero']; exact hcc.2.1, trivial⟩ ?_
      dsimp only [flat, unc, unc1, List.nil_append, List.cons_append]
      have hel := hvt.len
      refine cond_mk (fun g4 => ?_) (fun g4 => ?_)
      · have g4 := of_decide_eq_true g4
        have hklt : k < e.x.terms.length := by omega
        refine need_of ⟨by omega, by omega⟩ (osome_mk ha ?_)
        refine loads_of ((e.p, e.l, e.c), ()) ⟨by rw [add_zero']; exact hcc.2.1, trivial⟩ ?_
        dsimp only [flat, unc, unc1, List.nil_append, List.cons_append]
        refine need_of ⟨by omega, by omega⟩ ?_
        obtain ⟨a2, ha2, hc2⟩ := hvt.cells k hklt
        refine osome_mk ha2 ?_
        rw [show Int.toNat (k : Int) = k by omega]
        have htkk : e.x.terms.take (k + 1) = e.x.terms.take k ++ [e.x.terms[k]] := List.take_succ_eq_append_getElem hklt
        have htz := (htsz e.x.terms[k] (List.getElem_mem hklt)).1
        generalize e.x.terms[k] = t at hc2 htkk htz
        refine loads_of (t.1, ()) ⟨hc2.1, trivial⟩ ?_
        dsimp only [flat, unc, unc1, List.nil_append, List.cons_append]
        have hul := hu.len
        have hix : Int.tmod (IntKind.wrap .i64 ((i : Int) + (k : Int))) (m : Int) = (((i + k) % m : Nat) : Int) := by
          rw [wrap_i64 (by omega) (by omega), show ((i : Int) + (k : Int)) = ((i + k : Nat) : Int) by omega]
          rfl
        rw [hix]
        have hlt := Nat.mod_lt (i + k) (Nat.pos_of_ne_zero hm0)
        refine need_of (by omega) (need_of ⟨by omega, by omega⟩ ?_)
        obtain ⟨a3, ha3, hc3⟩ := hu.cells ((i + k) % m) (by omega)
        refine osome_mk ha3 ?_
        rw [show Int.toNat (((i + k) % m : Nat) : Int) = (i + k) % m by omega]
        refine loads_of ((us[(i + k) % m] : Int), ()) (cellsAt_keep e08 (by simp) _ _ hc3) ?_
        dsimp only [flat, unc, unc1, List.nil_append, List.cons_append]
        refine putA a8 htz us[(i + k) % m] ?_
        intro h9 a9 k9 z9
        have hwk : IntKind.wrap .i64 ((k : Int) + 1) = ((k + 1 : Nat) : Int) := by rw [wrap_i64 (by omega) (by omega)]; omega
        refine again_mk (cs := iCs) (((k + 1 : Nat) : Int), ()) (e.x.terms.length - (k + 1)) rfl (by omega) (by rw [hwk]; rfl) ⟨k + 1, _, rfl, by omega, rfl, Ch.trans k8 k9 (fun j hj _ => hj), a9, fun s hs => ?_, fun u hu => ?_⟩
        · unfold fset
          split
          · rfl
          · exact hsub s hs
        · unfold fset
          split
          · rfl
          · rename_i hne
            rw [htkk] at hu
            rcases List.mem_append.1 hu with h | h
            · exact hf8 u h
            · exact (hne (by rw [List.mem_singleton.1 h])).elim
      · have g4 := of_decide_eq_false g4
        have htk2 : e.x.terms.take k = e.x.terms := List.take_of_length_le (by omega)
        rw [htk2] at hf8
        have hwi : IntKind.wrap .i64 ((i : Int) + 1) = ((i + 1 : Nat) : Int) := by rw [wrap_i64 (by omega) (by omega)]; omega
        refine again_mk (cs := iCs) (((i + 1 : Nat) : Int), ()) (es.length - (i + 1)) rfl (by omega) (by rw [hwi]; rfl) ⟨i + 1, f', _, _, rfl, by omega, rfl, e38, a8, m7.keep k8 (by simp; omega), fun s hs => ?_, fun u hu t ht => ?_⟩
        · unfold fset at hs
          split at hs
          · rename_i he; rw [he]; exact hnme
          · exact ho6 s hs
        · rw [htk] at hu
          rcases List.mem_append.1 hu with h | h
          · exact hsub _ (hf6 u h t ht)
          · rw [List.mem_singleton.1 h] at ht
            exact hf8 t ht
    · have g3 := of_decide_eq_false g3
      have htke : es.take i = es := List.take_of_length_le (by omega)
      rw [htke] at hf6
      clear g3 hile htke
      have hfm : ∀ s, s ∈ namesE es → ∀ t, t ∈ (solE es s).terms → (f t.1).isSome = true ∧ t.1 ∉ namesE es ∧ legalL t.1.data.toList = true := by
        intro s hs t ht
        obtain ⟨h1, w, u, hw, hu, e⟩ := sol_names (ownE_mem es) hc hs t ht
        obtain ⟨d, hd, _, hx⟩ := linE_mem hw
        rw [hx] at hu
        rw [← e]
        refine ⟨hf6 d hd u hu, fun h => ?_, htl d hd u hu⟩
        rw [← e] at h1
        rw [(ownE_mem es _).2 h] at h1
        cases h1
      generalize hF : (fun s => (f s).getD 0) = F
      have hFs : ∀ s, F s = (f s).getD 0 := fun s => by rw [← hF]
      refine loop_of (cs := biCs) (fun x w h' => ∃ (j : Nat) (f' : ByteArray → Option Nat), x.2.1 = (j : Int) ∧ j ≤ es.length ∧ w = es.length - j ∧ Ext h3 h' ∧ MapA h' gA f' ∧ (∃ n, MapF eB h' gO o n) ∧
          (∀ s, (∀ k, k < j → ∀ hk : k < es.length, s ≠ eqN es[k].name) → f' s = f s) ∧ (∀ k, k < j → ∀ hk : k < es.length, f' (eqN es[k].name) = some (valL F (solE es es[k].name))))
        (false, (0 : Int), ()) es.length rfl ⟨0, f, rfl, by omega, by omega, e6, a6, ⟨n, m6⟩, fun s _ => rfl, fun k hk => by omega⟩ ?_
      rintro ⟨b14, n15, ⟨⟩⟩ w h7 ⟨j, f', hj0, hjle, rfl, e7, a7, ⟨n7, m7⟩, hsame, hval⟩
      simp only at hj0
      subst hj0
      dsimp only [flat, unc, unc1, List.nil_append, List.cons_append]
      have e07 := e03.trans e7
      refine cond_mk (fun g4 => ?_) (fun g4 => ?_)
      · have g4 := of_decide_eq_true g4
        have hjlt : j < es.length := by omega
        have hjm : j < ms.length := by omega
        obtain ⟨hkn, hkx⟩ := hmk j hjlt hjm
        obtain ⟨a, ha, hat⟩ := vm3.at hjm
        obtain ⟨a0, ha0, hat0⟩ := hi.vw.at hjlt
        have hnme := hnm j hjlt
        have hnsz := hi.names es[j] (List.getElem_mem hjlt)
        have hfmj := hfm _ hnme
        have hsln : (solE es es[j].name).terms.length ≤ 2 ^ 20 := eo.sol_len hc hnme
        have hsnum : (solE es es[j].name).num < 4294967296 := by
          have hs : solE es es[j].name = putS (solO (ownE es) (linE es) (namesE es)) (linE es es[j].name) := sol_eq (ownE_mem es) hc hnme
          rw [hs]
          refine putS_num ?_
          obtain ⟨e, he, _, hx⟩ := linE_mem hnme
          rw [hx]; exact hi.num e he
        generalize ms[j] = mj at hat hkn hkx
        rw [← hkx] at hfmj hsln hsnum
        refine loop_of (cs := biCs) (fun x w h' => h' = h7 ∧ ∃ k : Nat, x.2.1 = (k : Int) ∧ k ≤ mj.x.terms.length ∧ w = mj.x.terms.length - k) (b14, (0 : Int), ()) mj.x.terms.length rfl ⟨rfl, 0, rfl, by omega, by omega⟩ ?_
        rintro ⟨b16, n17, ⟨⟩⟩ w h8 ⟨rfl, k, hk0, hkle, rfl⟩
        simp only at hk0
        subst hk0
        dsimp only [flat, unc, unc1, List.nil_append, List.cons_append]
        have hcc := (hat h8 e7).1
        have hvt := (hat h8 e7).2
        have hel := hvt.len
        refine need_of ⟨by omega, by omega⟩ (osome_mk ha ?_)
        rw [show Int.toNat (j : Int) = j by omega]
        refine loads_of ((mj.p, mj.l, mj.c), ()) ⟨by rw [add_zero']; exact hcc.2.1, trivial⟩ ?_
        dsimp only [flat, unc, unc1, List.nil_append, List.cons_append]
        refine cond_mk (fun g5 => ?_) (fun g5 => ?_)
        · have g5 := of_decide_eq_true g5
          have hklt : k < mj.x.terms.length := by omega
          refine need_of ⟨by omega, by omega⟩ (osome_mk ha ?_)
          refine loads_of ((mj.p, mj.l, mj.c), ()) ⟨by rw [add_zero']; exact hcc.2.1, trivial⟩ ?_
          dsimp only [flat, unc, unc1, List.nil_append, List.cons_append]
          refine need_of ⟨by omega, by omega⟩ ?_
          obtain ⟨a2, ha2, hc2⟩ := hvt.cells k hklt
          refine osome_mk ha2 ?_
          rw [show Int.toNat (k : Int) = k by omega]
          have hno := (hfmj mj.x.terms[k] (List.getElem_mem hklt)).2.1
          generalize mj.x.terms[k] = t at hc2 hno
          refine loads_of (t.1, ()) ⟨hc2.1, trivial⟩ ?_
          dsimp only [flat, unc, unc1, List.nil_append, List.cons_append]
          refine lookB m7 t.1 ?_
          have hwk : IntKind.wrap .i64 ((k : Int) + 1) = ((k + 1 : Nat) : Int) := by rw [wrap_i64 (by omega) (by omega)]; omega
          refine cond_mk (fun g6 => ?_) (fun g6 => ?_)
          · exact (hno (ho6 _ g6)).elim
          · exact again_mk (cs := biCs) (b16, ((k + 1 : Nat) : Int), ()) (mj.x.terms.length - (k + 1)) rfl (by omega) (by rw [hwk]; rfl) ⟨rfl, k + 1, rfl, by omega, rfl⟩
        · refine need_of ⟨by omega, by omega⟩ (osome_mk ha ?_)
          refine loads_of ((mj.p, mj.l, mj.c), (mj.x.num : Int), ()) ⟨by rw [add_zero']; exact hcc.2.1, by rw [add_add]; exact hcc.2.2.1, trivial⟩ ?_
          dsimp only [flat, unc, unc1, List.nil_append, List.cons_append]
          have hf' : ∀ t, t ∈ mj.x.terms → f' t.1 = f t.1 := fun t ht => hsame t.1 fun k _ hk => eqN_legal (hfmj t ht).2.2
          refine valueA (x := mj.x) (c := mj.c) a7 hvt (by omega) hsnum (fun t ht => by rw [hf' t ht]; exact (hfmj t ht).1) ?_
          intro h9 e9
          have hvv : valL (fun s => (f' s).getD 0) mj.x = valL F (solE es es[j].name) := by
            rw [← hkx]
            exact valL_congr fun t ht => by rw [hFs, hf' t ht]
          rw [hvv]
          refine cond_f rfl ?_
          have e39 := e7.trans e9
          have e09 := e03.trans e39
          have hcc9 := (hat h9 e39).1
          have hcc0 := (hat0 h9 e09).1
          refine need_of ⟨by omega, by omega⟩ (osome_mk ha ?_)
          refine loads_of (mj.name, ()) ⟨hcc9.1, trivial⟩ ?_
          dsimp only [flat, unc, unc1, List.nil_append, List.cons_append]
          refine need_of ⟨by omega, by omega⟩ (osome_mk ha0 ?_)
          refine loads_of (es[j].name, ()) ⟨hcc0.1, trivial⟩ ?_
          dsimp only [flat, unc, unc1, List.nil_append, List.cons_append]
          refine cond_f (by rw [eqBL, decide_eq_true hkn]; rfl) ?_
          refine need_of ⟨by omega, by omega⟩ (osome_mk ha0 ?_)
          refine loads_of (es[j].name, ()) ⟨hcc0.1, trivial⟩ ?_
          dsimp only [flat, unc, unc1, List.nil_append, List.cons_append]
          have hn32 := legal_size (hlg _ hnme)
          refine need_of (by omega) ?_
          have a9 := a7.keep e9 (by simp)
          refine putA a9 (by rw [eqN_size]; unfold maxLen; omega) (valL F (solE es es[j].name)) ?_
          intro h10 a10 k10 z10
          have hwj : IntKind.wrap .i64 ((j : Int) + 1) = ((j + 1 : Nat) : Int) := by rw [wrap_i64 (by omega) (by omega)]; omega
          refine again_mk (cs := biCs) (b16, ((j + 1 : Nat) : Int), ()) (es.length - (j + 1)) rfl (by omega) (by rw [hwj]; rfl)
            ⟨j + 1, _, rfl, by omega, rfl, Ch.trans e39 k10 (fun i hi hl => by simp at hi; omega), a10, ⟨n7, (m7.keep e9 (by simp)).keep k10 (by simp; omega)⟩, fun s hs => ?_, fun k hk hkl => ?_⟩
          · rw [fset_other _ _ (hs j (by omega) hjlt)]
            exact hsame s fun k hk hkl => hs k (by omega) hkl
          · by_cases hkj : k = j
            · subst hkj
              exact fset_same _ _ _
            · rw [fset_other _ _ (fun e => by
                have := eqN_inj e
                have hn : (es.map (·.name)).Nodup := hr.nodup
                rcases Nat.lt_or_gt_of_ne hkj with h | h
                · exact List.pairwise_iff_getElem.1 hn k j (by rw [List.length_map]; omega) (by rw [List.length_map]; omega) h (by simpa using this)
                · exact List.pairwise_iff_getElem.1 hn j k (by rw [List.length_map]; omega) (by rw [List.length_map]; omega) h (by simpa using this.symm))]
              exact hval k (by omega) hkl
      · have g4 := of_decide_eq_false g4
        have hjj : j = es.length := by omega
        subst hjj
        clear g4 hjle
        generalize hf1 : f' = f1 at a7 hsame hval
        clear hf1
        refine loop_of (cs := iCs) (fun x w h' => ∃ (j : Nat) (f' : ByteArray → Option Nat), x.1 = (j : Int) ∧ j ≤ es.length ∧ w = es.length - j ∧ Ext h3 h' ∧ MapA h' gA f' ∧
            (∀ s, (∀ k, k < j → ∀ hk : k < es.length, s ≠ es[k].name) → f' s = f1 s) ∧ (∀ k, k < j → ∀ hk : k < es.length, f' es[k].name = some (valL F (solE es es[k].name))))
          ((0 : Int), ()) es.length rfl ⟨0, f1, rfl, by omega, by omega, e7, a7, fun s _ => rfl, fun k hk => by omega⟩ ?_
        rintro ⟨n16, ⟨⟩⟩ w h8 ⟨j, f', hj0, hjle, rfl, e8, a8, hsame2, hval2⟩
        simp only at hj0
        subst hj0
        dsimp only [flat, unc, unc1, List.nil_append, List.cons_append]
        have e08 := e03.trans e8
        refine cond_mk (fun g4 => ?_) (fun g4 => ?_)
        · have g4 := of_decide_eq_true g4
          have hjlt : j < es.length := by omega
          obtain ⟨a0, ha0, hat0⟩ := hi.vw.at hjlt
          have hnme := hnm j hjlt
          have hnsz := hi.names es[j] (List.getElem_mem hjlt)
          have hn32 := legal_size (hlg _ hnme)
          have hcc0 := (hat0 h8 e08).1
          have hv1 : f' (eqN es[j].name) = some (valL F (solE es es[j].name)) := by
            rw [hsame2 _ fun k hk hkl e => eqN_legal (hlg _ (hnm k hkl)) e.symm]
            exact hval j hjlt hjlt
          refine need_of ⟨by omega, by omega⟩ (osome_mk ha0 ?_)
          rw [show Int.toNat (j : Int) = j by omega]
          refine loads_of (es[j].name, ()) ⟨hcc0.1, trivial⟩ ?_
          dsimp only [flat, unc, unc1, List.nil_append, List.cons_append]
          refine need_of ⟨by omega, by omega⟩ (osome_mk ha0 ?_)
          refine loads_of (es[j].name, ()) ⟨hcc0.1, trivial⟩ ?_
          dsimp only [flat, unc, unc1, List.nil_append, List.cons_append]
          refine need_of (by omega) ?_
          refine lookA a8 (eqN es[j].name) ?_
          rw [hv1]
          refine ⟨⟨⟨hcc0.1, trivial⟩, ⟨hcc0.1, trivial⟩, trivial⟩, ?_⟩
          refine putA a8 hnsz (valL F (solE es es[j].name)) ?_
          intro h9 a9 k9 z9
          have hwj : IntKind.wrap .i64 ((j : Int) + 1) = ((j + 1 : Nat) : Int) := by rw [wrap_i64 (by omega) (by omega)]; omega
          refine again_mk (cs := iCs) (((j + 1 : Nat) : Int), ()) (es.length - (j + 1)) rfl (by omega) (by rw [hwj]; rfl)
            ⟨j + 1, _, rfl, by omega, rfl, Ch.trans e8 k9 (fun i hi hl => by simp at hi; omega), a9, fun s hs => ?_, fun k hk hkl => ?_⟩
          · rw [fset_other _ _ (hs j (by omega) hjlt)]
            exact hsame2 s fun k hk hkl => hs k (by omega) hkl
          · by_cases hkj : k = j
            · subst hkj
              exact fset_same _ _ _
            · rw [fset_other _ _ (fun this => by
                have hn : (es.map (·.name)).Nodup := hr.nodup
                rcases Nat.lt_or_gt_of_ne hkj with h | h
                · exact List.pairwise_iff_getElem.1 hn k j (by rw [List.length_map]; omega) (by rw [List.length_map]; omega) h (by simpa using this)
                · exact List.pairwise_iff_getElem.1 hn j k (by rw [List.length_map]; omega) (by rw [List.length_map]; omega) h (by simpa using this.symm))]
              exact hval2 k (by omega) hkl
        · have g4 := of_decide_eq_false g4
          have hjj : j = es.length := by omega
          subst hjj
          have hown2 : ∀ s, s ∈ namesE es → f' s = some (valL F (solE es s)) := by
            intro s hs
            obtain ⟨e, he, rfl⟩ := List.mem_map.1 hs
            obtain ⟨k, hk, rfl⟩ := List.getElem_of_mem he
            exact hval2 k hk hk
          have hoth : ∀ s, s ∉ namesE es → legalL s.data.toList = true → f' s = f s := by
            intro s hs hl
            rw [hsame2 s fun k _ hkl e => hs (by rw [e]; exact hnm k hkl)]
            exact hsame s fun k _ hkl => eqN_legal hl
          refine loop_of (cs := biCs) (fun x w h' => ∃ j : Nat, x.2.1 = (j : Int) ∧ j ≤ es.length ∧ w = es.length - j ∧ Ext h8 h') (b14, (0 : Int), ()) es.length rfl ⟨0, rfl, by omega, by omega, Ch.refl _ _⟩ ?_
          rintro ⟨b17, n18, ⟨⟩⟩ w h9 ⟨j, hj0, hjle2, rfl, e9⟩
          simp only at hj0
          subst hj0
          dsimp only [flat, unc, unc1, List.nil_append, List.cons_append]
          have e09 := e08.trans e9
          have a9 := a8.keep e9 (by simp)
          refine cond_mk (fun g5 => ?_) (fun g5 => ?_)
          · have g5 := of_decide_eq_true g5
            have hjlt : j < es.length := by omega
            obtain ⟨a0, ha0, hat0⟩ := hi.vw.at hjlt
            have hnme := hnm j hjlt
            have hmem := List.getElem_mem hjlt
            have hlin : linE es es[j].name = es[j].x := linE_of hr.nodup hmem
            have htlen : es[j].x.terms.length ≤ 2 ^ 20 := by have := flatMap_mem_length (fun e : EqM => e.x.terms) hmem; omega
            have hsv := sol_val hc hnme (f := F) (g := fun s => (f' s).getD 0) (fun s hs => by rw [hown2 s hs]; rfl) (fun t ht hn => by
              rw [hlin] at ht
              show (f' t.1).getD 0 = F t.1
              rw [hFs, hoth t.1 hn (htl _ hmem t ht)])
            rw [hlin] at hsv
            refine need_of ⟨by omega, by omega⟩ (osome_mk ha0 ?_)
            rw [show Int.toNat (j : Int) = j by omega]
            have hcc0 := (hat0 h9 e09).1
            refine loads_of ((es[j].p, es[j].l, es[j].c), (es[j].x.num : Int), ()) ⟨by rw [add_zero']; exact hcc0.2.1, by rw [add_add]; exact hcc0.2.2.1, trivial⟩ ?_
            dsimp only [flat, unc, unc1, List.nil_append, List.cons_append]
            refine valueA (x := es[j].x) (c := es[j].c) a9 (hat0 h9 e09).2 (by omega) (hi.num _ hmem) (fun t ht => ?_) ?_
            · by_cases hn : t.1 ∈ namesE es
              · rw [hown2 _ hn]; rfl
              · rw [hoth _ hn (htl _ hmem t ht)]
                exact hf6 _ hmem t ht
            · intro h10 e10
              refine cond_f rfl ?_
              have hcc10 := (hat0 h10 (e09.trans e10)).1
              refine need_of ⟨by omega, by omega⟩ (osome_mk ha0 ?_)
              refine loads_of (es[j].name, ()) ⟨hcc10.1, trivial⟩ ?_
              dsimp only [flat, unc, unc1, List.nil_append, List.cons_append]
              refine lookA (a9.keep e10 (by simp)) es[j].name ?_
              refine cond_f (by rw [hown2 _ hnme, ← hsv]; simp) ?_
              have hwj : IntKind.wrap .i64 ((j : Int) + 1) = ((j + 1 : Nat) : Int) := by rw [wrap_i64 (by omega) (by omega)]; omega
              exact again_mk (cs := biCs) (b17, ((j + 1 : Nat) : Int), ()) (es.length - (j + 1)) rfl (by omega) (by rw [hwj]; rfl) ⟨j + 1, rfl, by omega, rfl, e9.trans e10⟩
          · exact knownT fun h' e => ⟨rfl, e09.trans e⟩
end Go.Sx

set_option linter.unusedVariables false
set_option maxRecDepth 100000
namespace Go.Sx
open Go.Proofs
theorem cellsAt_shift {h : Hp} {a : Addr} : ∀ (vs : List Value) (o i : Nat), cellsAt h (a.add o) i vs → cellsAt h a (o + i) vs
  | [], _, _, _ => trivial
  | v :: vs, o, i, hc => ⟨by have := hc.1; rw [add_add] at this; exact this, cellsAt_shift vs o (i + 1) hc.2⟩
theorem cellsAt_append {h : Hp} {a : Addr} : ∀ (vs us : List Value) (i : Nat), cellsAt h a i vs → cellsAt h a (i + vs.length) us → cellsAt h a i (vs ++ us)
  | [], us, i, _, hu => hu
  | v :: vs, us, i, hv, hu => ⟨hv.1, cellsAt_append vs us (i + 1) hv.2 (by rw [List.length_cons] at hu; rw [show i + 1 + vs.length = i + (vs.length + 1) by omega]; exact hu)⟩
theorem cellsE_flat {h : Hp} {a : Addr} : ∀ (es : List EqM) (k : Nat), (∀ i, (hi : i < es.length) → cellsAt h (a.add ((k + i) * 3)) 0 (eqV es[i])) → cellsAt h a (k * 3) (es.map eqV).flatten
  | [], _, _ => trivial
  | e :: es, k, hc => by
    rw [List.map_cons, List.flatten_cons]
    refine cellsAt_append _ _ _ ?_ ?_
    · have := cellsAt_shift _ _ _ (hc 0 (by simp))
      simpa using this
    · have := cellsE_flat es (k + 1) (fun i hi => by
        have := hc (i + 1) (by simpa using hi)
        rw [show k + (i + 1) = k + 1 + i by omega] at this
        exact this)
      rw [show (k + 1) * 3 = k * 3 + (eqV e).length by simp [eqV]; omega] at this
      exact this
theorem cellsAt_add {h : Hp} {a : Addr} : ∀ (vs : List Value) (o i : Nat), cellsAt h a (o + i) vs → cellsAt h (a.add o) i vs
  | [], _, _, _ => trivial
  | v :: vs, o, i, hc => ⟨by rw [add_add]; exact hc.1, cellsAt_add vs o (i + 1) hc.2⟩
theorem eqV_plain (es : List EqM) : (es.map eqV).flatten.all plainV = true := by
  induction es with
  | nil => rfl
  | cons e es ih => rw [List.map_cons, List.flatten_cons, List.all_append, ih]; rfl
theorem eqV_len (es : List EqM) : ∀ y, y ∈ es.map eqV → y.length = 3 := by
  intro y hy
  obtain ⟨e, _, rfl⟩ := List.mem_map.1 hy
  rfl
/-- A list turned. -/
abbrev rotL {α : Type} (k : Nat) (l : List α) : List α := l.drop k ++ l.take k
theorem rot_of {L : Lp} {K : Value → Hp → Prop} {h : Hp} {p : Option Addr} {l c : Nat} {es : List EqM} (v : VwE h p l es) (hne : es ≠ []) (hlc : l ≤ c) (hl : l ≤ 2 ^ 20) {k : Nat} (hk : k ≤ l) {kk : Option Addr → Nat → Nat → T} (hkk : ∀ p' c' h', SL h' h.size 38 3 p' l c' ((rotL k es).map eqV) → Ext h h' → kk p' l c' L K h') :
    T.sem Try.prog (Instr.buildSlice 22 0 #[]) false [(false, [.slice 0])] (fun p4 l5 l6 =>
     T.sem Try.prog (Builtin.append_ #[22, 22] 22 #[.slice p4 l5 l6, .slice (if (c = (Int.toNat (k : Int))) then p else (Option.map (fun a => Addr.add a ((Int.toNat (k : Int)) * 3)) p)) ((Int.toNat (l : Int)) - (Int.toNat (k : Int))) (c - (Int.toNat (k : Int)))]) false [(false, [.slice 0])] (fun p7 l8 l9 =>
     T.sem Try.prog (Builtin.append_ #[22, 22] 22 #[.slice p7 l8 l9, .slice (if (c = 0) then p else (Option.map (fun a => Addr.add a 0) p)) ((Int.toNat (k : Int)) - 0) (c - 0)]) false [(false, [.slice 0])] kk)) L K h := by
  have hll := v.len
  have hpos : 0 < es.length := List.length_pos_iff.2 hne
  obtain ⟨a, ha, _⟩ := v.cells 0 hpos
  subst ha
  have hcell : ∀ i, (hi : i < es.length) → cellsAt h (a.add (i * 3)) 0 (eqV es[i]) := fun i hi => by
    obtain ⟨a', e, hc⟩ := v.cells i hi
    cases e
    exact hc
  rw [show Int.toNat (k : Int) = k by omega, show Int.toNat (l : Int) = l by omega]
  refine copyLit_of (ys := (es.drop k).map eqV) und22 equZ rfl ?_ (by rw [List.length_map, List.length_drop]; omega) (eqV_len _) (eqV_plain _) (by omega) (by omega) ?_
  · right
    by_cases hck : c = k
    · have : es.drop k = [] := List.drop_of_length_le (by omega)
      refine ⟨a, by rw [if_pos hck], ?_⟩
      rw [this]
      trivial
    · refine ⟨a.add (k * 3), by rw [if_neg hck]; rfl, ?_⟩
      refine cellsAt_add _ _ _ ?_
      rw [Nat.add_zero]
      refine cellsE_flat (es.drop k) k fun i hi => ?_
      rw [List.getElem_drop]
      exact hcell (k + i) (by rw [List.length_drop] at hi; omega)
  · intro p1 c1 h1 s1 e1
    obtain ⟨i, hi, hz, hsz, hby⟩ := inf_of equZ
    have hc2 : cellsAt h1 a 0 ((es.take k).map eqV).flatten := by
      have := cellsE_flat (h := h) (a := a) (es.take k) 0 fun i hi => by
        rw [List.length_take] at hi
        rw [List.getElem_take, Nat.zero_add]
        exact hcell i (by omega)
      rw [Nat.zero_mul] at this
      exact cellsAt_keep e1 (by simp) _ _ this
    have hpp : (if (c = 0) then some a else (Option.map (fun a => Addr.add a 0) (some a))) = some a := by
      split
      · rfl
      · simp only [Option.map_some, add_zero']
    rw [hpp, Nat.sub_zero, Nat.sub_zero]
    refine sem_slice ?_
    have hz1 := e1.size
    refine append_of (ys := (es.take k).map eqV) und22 hi hz (by rw [hsz]; rfl) (by rw [hsz]; exact s1) (by rw [List.length_map, List.length_take]; omega) (fun y hy => by rw [hsz]; exact eqV_len _ y hy) hc2 (eqV_plain _) (by rw [hby]; omega) (by omega) (by omega) ?_
    intro p2 c2 h2 s2 k2 hp2
    have hlk : l - k + k = l := by omega
    rw [hlk] at s2 ⊢
    rw [hsz] at s2
    refine ⟨p2, l, c2, rfl, hkk p2 c2 h2 ?_ (Ch.trans e1 k2 fun j hj hl => by have := (s1.blk hj).1; omega)⟩
    rw [List.map_append]
    exact s2
theorem rot_perm {α : Type} (k : Nat) (l : List α) : (rotL k l).Perm l := by
  have h : (rotL k l).Perm (l.take k ++ l.drop k) := List.perm_append_comm
  rw [List.take_append_drop] at h
  exact h
theorem rot_map {α β : Type} (f : α → β) (k : Nat) (l : List α) : (rotL k l).map f = rotL k (l.map f) := by
  unfold rotL
  rw [List.map_append, List.map_drop, List.map_take]
theorem EqsSm.perm {es fs : List EqM} (o : EqsSm es) (hp : fs.Perm es) : EqsSm fs := by
  have hm : ∀ e, e ∈ fs → e ∈ es := fun e he => hp.mem_iff.1 he
  refine ⟨⟨((hp.map _).nodup_iff).2 o.nodup, by rw [hp.length_eq]; exact o.len, fun e he => o.sz e (hm e he), fun e he => o.tl e (hm e he), fun e he => o.ts e (hm e he)⟩, ?_⟩
  have : (fs.flatMap (·.x.terms)).Perm (es.flatMap (·.x.terms)) := hp.flatMap_right _
  rw [this.length_eq]
  exact o.tot
theorem names_perm {es fs : List EqM} (hp : fs.Perm es) (s : ByteArray) : s ∈ namesE fs ↔ s ∈ namesE es := (hp.map _).mem_iff
theorem own_perm {es fs : List EqM} (hp : fs.Perm es) : ownE fs = ownE es := by
  funext s
  have := names_perm hp s
  rw [← ownE_mem, ← ownE_mem] at this
  cases h1 : ownE fs s <;> cases h2 : ownE es s <;> simp_all
theorem linE_outZ {es : List EqM} {s : ByteArray} (h : s ∉ namesE es) : linE es s = linZ := by
  unfold linE
  rw [plc_none fun d hd e => h (by rw [← e]; exact List.mem_map_of_mem hd)]
  rfl
theorem lin_perm {es fs : List EqM} (hn : (namesE es).Nodup) (hp : fs.Perm es) : linE fs = linE es := by
  have hn2 : (namesE fs).Nodup := ((hp.map _).nodup_iff).2 hn
  funext s
  by_cases h : s ∈ namesE es
  · obtain ⟨e, he, rfl⟩ := List.mem_map.1 h
    rw [linE_of hn he, linE_of hn2 (hp.mem_iff.2 he)]
  · rw [linE_outZ h, linE_outZ fun k => h ((names_perm hp s).1 k)]
theorem sol_perm {es fs : List EqM} (hn : (namesE es).Nodup) (hp : fs.Perm es) (s : ByteArray) : solE fs s = solE es s := by
  show sol (ownE fs) (linE fs) (namesE fs) s = sol (ownE es) (linE es) (namesE es) s
  unfold sol
  rw [own_perm hp, lin_perm hn hp, show (namesE fs).length = (namesE es).length from (hp.map _).length_eq]
theorem edg_perm {es fs : List EqM} (hn : (namesE es).Nodup) (hp : fs.Perm es) : edgE fs = edgE es := by
  show Edge (ownE fs) (succL (linE fs)) = Edge (ownE es) (succL (linE es))
  rw [own_perm hp, lin_perm hn hp]
theorem within_hc (n : Int) (l : Nat) (hl : l ≤ 60) (h0 : 0 < l) (h : Hp) : HC Try.prog 22 #[.int .i64 n, .int .i64 (0 : Int), .int .i64 (IntKind.wrap .i64 ((l : Int) - (1 : Int)))] h fun v h' => (∃ k : Nat, v = .int .i64 (k : Int) ∧ k < l) ∧ h' = h := by
  refine hcr_of (args := [.int .i64 n, .int .i64 (0 : Int), .int .i64 (IntKind.wrap .i64 ((l : Int) - (1 : Int)))]) mixed Try.func22 (by kernel_rfl) (t_spandrelbook_Within_eq n 0 _) ?_
  unfold t_spandrelbook_Within
  have w : ∀ x : Int, -1000 ≤ x → x ≤ 1000 → IntKind.wrap .i64 x = x := fun x h1 h2 => wrap_i64 (by omega) (by omega)
  have e1 : IntKind.wrap .i64 ((l : Int) - 1) = (l : Int) - 1 := w _ (by omega) (by omega)
  have e2 : IntKind.wrap .i64 (IntKind.wrap .i64 (((l : Int) - 1) - 0) + 1) = (l : Int) := by
    rw [w (((l : Int) - 1) - 0) (by omega) (by omega), w _ (by omega) (by omega)]; omega
  rw [e1, e2]
  have hm1 : Int.tmod n (l : Int) < (l : Int) := Int.tmod_lt_of_pos n (by omega)
  have hm2 : -(l : Int) < Int.tmod n (l : Int) := by have := Int.lt_tmod_of_pos n (show (0:Int) < (l : Int) by omega); omega
  generalize Int.tmod n (l : Int) = r at hm1 hm2 ⊢
  refine need_of (by omega) ?_
  refine cond_mk (fun g => ?_) (fun g => ?_)
  · have g := of_decide_eq_true g
    have e3 : IntKind.wrap .i64 (0 + IntKind.wrap .i64 (IntKind.wrap .i64 (IntKind.wrap .i64 (r + ((l : Int) - 1)) - 0) + 1)) = ((r + l).toNat : Int) := by
      rw [w (r + ((l : Int) - 1)) (by omega) (by omega), w (r + ((l : Int) - 1) - 0) (by omega) (by omega), w (r + ((l : Int) - 1) - 0 + 1) (by omega) (by omega), w _ (by omega) (by omega)]
      omega
    exact ⟨⟨(r + l).toNat, by rw [e3], by omega⟩, rfl⟩
  · have g := of_decide_eq_false g
    exact ⟨⟨r.toNat, by rw [w (0 + r) (by omega) (by omega)]; congr 1; omega, by omega⟩, rfl⟩
theorem equTurned_hc {h : Hp} {p : Option Addr} {l c : Nat} {es : List EqM} {N : Nat} (hi : EquIn h p l c es N) (hN : N ≤ 2 ^ 20) (n1 : Int) :
    HC Try.prog 6 #[.slice p l c, .int .i64 n1] h fun w h' => w = .bool true ∧ Ext h h' := by
  refine hcr_of (args := [.slice p l c, .int .i64 n1]) mixed Try.func6 (by kernel_rfl) (t_spandrellaw11_EquTurned_eq p l c n1) ?_
  unfold t_spandrellaw11_EquTurned
  have hm := hi.many
  have hll := hi.vw.len
  refine call_of (right_hc (c := c) hi.vw hi.names (fun e he => ⟨by have := flatMap_mem_length (fun e : EqM => e.x.terms) he; omega, fun t ht => (hi.terms e he t ht).1⟩)) ?_
  rintro _ h1 ⟨⟨b, rfl, hb⟩, e1⟩
  refine ⟨(b, ()), rfl, ?_⟩
  dsimp only [flat, unc, unc1, List.nil_append, List.cons_append]
  refine cond_mk (fun g1 => knownT fun h' e => ⟨rfl, e1.trans e⟩) (fun g1 => ?_)
  have hr := hb (by simpa using g1)
  have eo := hi.sm hN hr
  have hl60 := hr.len
  refine cond_mk (fun g2 => knownT fun h' e => ⟨rfl, e1.trans e⟩) (fun g2 => ?_)
  have hl0 : l ≠ 0 := fun e => by rw [e] at g2; simp at g2
  have hne : es ≠ [] := fun e => by rw [e] at hll; exact hl0 hll
  refine call_of (within_hc n1 l (by omega) (by omega) h1) ?_
  rintro _ _ ⟨⟨k, rfl, hkl⟩, rfl⟩
  refine ⟨((k : Int), ()), rfl, ?_⟩
  dsimp only [flat, unc, unc1, List.nil_append, List.cons_append]
  have hcap := hi.cap
  refine need_of ⟨by omega, by omega, by omega⟩ (need_of ⟨by omega, by omega, by omega⟩ ?_)
  refine rot_of (hi.vw.keep e1) hne hcap (by omega) (by omega) ?_
  intro p10 c12 h2 s2 e2
  have e02 := e1.trans e2
  have hz02 := e02.size
  have hperm := rot_perm k es
  have eof := eo.perm hperm
  have vf2 : VwE h2 p10 l (rotL k es) := ⟨by rw [hperm.length_eq]; exact hll, fun i hi2 => by
    obtain ⟨a, ha, hc⟩ := s2.cells (i := i) (by simpa using hi2)
    rw [List.getElem_map] at hc
    exact ⟨a, ha, hc⟩, fun e he => (hi.vw.keep e02).inn e (hperm.mem_iff.1 he)⟩
  have hedg := edg_perm eo.nodup hperm
  refine call_of (solveAll_hc (c := c) (hi.vw.keep e02) eo (fun i hb => by have := hi.blk i hb; omega) (by omega)) ?_
  rintro w3 h3 ⟨hs3, e3⟩
  have s3 := s2.keep e3 (by simp)
  have vf3 := vf2.keep e3
  have hs4 := solveAll_hc (c := c12) vf3 eof (fun i hb => (s3.blk hb).2) (by rw [hperm.length_eq]; omega)
  have e03 := e02.trans e3
  rcases hs3 with ⟨i, hil, ho, _, rfl⟩ | ⟨hc, p13, l14, l15, ms, rfl, own, hms⟩
  · refine ⟨((none, 0, 0), (i : Int), (24 : Int), ()), rfl, ?_⟩
    dsimp only [flat, unc, unc1, List.nil_append, List.cons_append]
    refine call_of hs4 ?_
    rintro w4 h4 ⟨hs4, e4⟩
    have e04 := e03.trans e4
    rcases hs4 with ⟨j, hjl, _, _, rfl⟩ | ⟨hc, _⟩
    · refine ⟨((none, 0, 0), (j : Int), (24 : Int), ()), rfl, ?_⟩
      dsimp only [flat, unc, unc1, List.nil_append, List.cons_append]
      refine cond_f rfl (cond_f rfl (cond_t rfl ?_))
      refine call_of (cycle_hc (c := c) (hi.vw.keep e04) eo.toEqsOk (fun i hb => by have := hi.blk i hb; have := e04.size; omega)) ?_
      rintro _ h5 ⟨⟨p23, l24, c25, ks, rfl, sk, hks, hso⟩, e5⟩
      refine ⟨((p23, l24, c25), ()), rfl, ?_⟩
      dsimp only [flat, unc, unc1, List.nil_append, List.cons_append]
      have s5 := (s3.keep e4 (by simp)).keep e5 (by simp)
      refine call_of (cycle_hc (c := c12) ((vf3.keep e4).keep e5) eof.toEqsOk (fun i hb => (s5.blk hb).2)) ?_
      rintro _ h6 ⟨⟨p26, l27, c28, ks2, rfl, sk2, hks2, hso2⟩, e6⟩
      refine ⟨((p26, l27, c28), ()), rfl, ?_⟩
      dsimp only [flat, unc, unc1, List.nil_append, List.cons_append]
      have hkk : ks = ks2 := ltN_uniq hso hso2 fun s => by
        rw [hks s, hks2 s]
        show OnC (edgE es) s ↔ OnC (edgE (rotL k es)) s
        rw [hedg]
      have hlk : ks.length ≤ es.length := by
        have h1 := nodup_le ks (namesE es) (hso.imp fun h => ltN_ne h) fun s hs => (ownE_mem es s).1 ((hks s).1 hs).isOwn
        unfold namesE at h1
        rw [List.length_map] at h1
        exact h1
      refine call_bool (sameS_hc (sk.keep e6 (by simp)) sk2 hkk (by rw [sk.1, List.length_map]; omega)) ?_
      refine cond_t rfl ?_
      exact knownT fun h' e => ⟨rfl, ((e04.trans e5).trans e6).trans e⟩
    · refine (hc es[i].name ?_).elim
      rw [hedg]
      exact ho
  · refine ⟨((p13, l14, l15), (0 : Int), (0 : Int), ()), rfl, ?_⟩
    dsimp only [flat, unc, unc1, List.nil_append, List.cons_append]
    refine call_of hs4 ?_
    rintro w4 h4 ⟨hs4, e4⟩
    have e04 := e03.trans e4
    rcases hs4 with ⟨j, hjl, ho, _, rfl⟩ | ⟨_, p18, l19, l20, ns, rfl, own2, hns⟩
    · rw [hedg] at ho
      exact (hc _ ho).elim
    · refine ⟨((p18, l19, l20), (0 : Int), (0 : Int), ()), rfl, ?_⟩
      dsimp only [flat, unc, unc1, List.nil_append, List.cons_append]
      have hmsl : ms.length = es.length := by have := congrArg List.length hms; simpa using this
      have hnsl : ns.length = es.length := by
        have h1 := congrArg List.length hns
        rw [List.length_map, List.length_map, hperm.length_eq] at h1
        exact h1
      have hl14 : l14 = es.length := by rw [own.out.1, List.length_map, hmsl]
      have hl19 : l19 = es.length := by rw [own2.out.1, List.length_map, hnsl]
      refine cond_f rfl ?_
      refine cond_f (by have : (l14 : Int) = (l19 : Int) := by omega
                        simp [this]) ?_
      refine cond_f rfl ?_
      have own4 := own.keep e4 (by simp)
      have vm4 := vwE_own own4
      have hcap14 := own4.out.le_cap
      have hmne : ms ≠ [] := fun e => by rw [e] at hmsl; exact hne (List.eq_nil_of_length_eq_zero (by simpa using hmsl.symm))
      refine need_of ⟨by omega, by omega, by omega⟩ (need_of ⟨by omega, by omega, by omega⟩ ?_)
      refine rot_of vm4 hmne hcap14 (by omega) (by omega) ?_
      intro p29 c31 h5 s5 e5
      have hpm := rot_perm k ms
      have own5 := own4.keep e5 (by simp)
      have vm5 := vwE_own own5
      have vr5 : VwE h5 p29 l14 (rotL k ms) := ⟨by rw [hpm.length_eq]; omega, fun i hi2 => by
        obtain ⟨a, ha, hc⟩ := s5.cells (i := i) (by simpa using hi2)
        rw [List.getElem_map] at hc
        exact ⟨a, ha, hc⟩, fun e he => vm5.inn e (hpm.mem_iff.1 he)⟩
      have vn5 := (vwE_own own2).keep e5
      have hkey : (rotL k ms).map eKey = ns.map eKey := by
        have h1 : ms.map eKey = es.map (fun e => (e.name, solE es e.name)) := hms
        have h2 : ns.map eKey = (rotL k es).map (fun e => (e.name, solE (rotL k es) e.name)) := hns
        rw [rot_map, h1, h2, rot_map]
        have hf : (fun e : EqM => (e.name, solE (rotL k es) e.name)) = fun e => (e.name, solE es e.name) := by
          funext e
          rw [sol_perm eo.nodup hperm]
        rw [hf]
      have hme : ∀ m, m ∈ ms → m.name ∈ namesE es ∧ m.x = solE es m.name := by
        intro m hm
        have h1 : (m.name, m.x) ∈ ms.map (fun m => (m.name, m.x)) := List.mem_map_of_mem (f := fun m : EqM => (m.name, m.x)) hm
        rw [hms] at h1
        obtain ⟨e, he, e1⟩ := List.mem_map.1 h1
        simp only [Prod.mk.injEq] at e1
        refine ⟨by rw [← e1.1]; exact List.mem_map_of_mem he, by rw [← e1.1, ← e1.2]⟩
      have hmtl : ∀ m, m ∈ ms → m.x.terms.length ≤ 2 ^ 20 := fun m hm => by rw [(hme m hm).2]; exact eo.sol_len hc (hme m hm).1
      have hmsz : ∀ m, m ∈ ms → ∀ t, t ∈ m.x.terms → t.1.size ≤ maxLen := fun m hm => by rw [(hme m hm).2]; exact eo.sol_sz hc (hme m hm).1
      have hnames : namesE ms = namesE es := by
        have h1 : (ms.map (fun m => (m.name, m.x))).map (·.1) = (es.map (fun e => (e.name, solE es e.name))).map (·.1) := by rw [hms]
        rw [List.map_map, List.map_map] at h1
        exact h1
      refine call_boolx (sameEqus_hc (c := c31) (d := l20) vr5 vn5 hkey (by rw [hpm.length_eq]; omega) (fun e he => by have := hmtl e (hpm.mem_iff.1 he); omega)) ?_
      intro h6 e6
      refine cond_f rfl ?_
      have e56 := e5.trans e6
      have own6 := own4.keep e56 (by simp)
      have vm6 := vwE_own own6
      have mo : EqsOk ms := ⟨by rw [hnames]; exact eo.nodup, by omega, fun m hm => eo.toEqsOk.names _ (hme m hm).1, fun m hm => by have := hmtl m hm; omega, hmsz⟩
      have mtot : (ms.flatMap (·.x.terms)).length ≤ 2 ^ 39 := by
        have : ∀ l : List EqM, (∀ e, e ∈ l → e.x.terms.length ≤ 2 ^ 20) → (l.flatMap (·.x.terms)).length ≤ l.length * 2 ^ 20 := by
          intro l
          induction l with
          | nil => intro _; simp
          | cons e l ih =>
            intro h
            rw [List.flatMap_cons, List.length_append, List.length_cons]
            have := h e (by simp)
            have := ih fun d hd => h d (List.mem_cons_of_mem _ hd)
            omega
        have := this ms hmtl
        have h2 : ms.length * 2 ^ 20 ≤ 60 * 2 ^ 20 := Nat.mul_le_mul_right _ (by omega)
        omega
      have e06 := e04.trans e56
      refine loop_of (cs := biCs) (fun x w h' => ∃ j : Nat, x.2.1 = (j : Int) ∧ j ≤ ms.length ∧ w = ms.length - j ∧ Ext h6 h') (false, (0 : Int), ()) ms.length rfl ⟨0, rfl, by omega, by omega, Ch.refl _ _⟩ ?_
      rintro ⟨b33, n34, ⟨⟩⟩ w h7 ⟨j, hj0, hjle, rfl, e7⟩
      simp only at hj0
      subst hj0
      dsimp only [flat, unc, unc1, List.nil_append, List.cons_append]
      refine cond_mk (fun g5 => ?_) (fun g5 => knownT fun h' e => ⟨rfl, (e06.trans e7).trans e⟩)
      have g5 := of_decide_eq_true g5
      have hjlt : j < ms.length := by omega
      obtain ⟨a, ha, hat⟩ := vm6.at hjlt
      have hmj := List.getElem_mem hjlt
      have hmx := hme ms[j] hmj
      have hml := hmtl ms[j] hmj
      have hms' := hmsz ms[j] hmj
      generalize ms[j] = mj at hat hmx hml hms'
      have hcc := (hat h7 e7).1
      have hvt := (hat h7 e7).2
      have hst : ∀ h', Ext h6 h' → cellsAt h' ((a.add (j * 3)).add 1) 0 [.slice mj.p mj.l mj.c, .int .u32 (mj.x.num : Int)] := fun h' e => by
        have := (hat h' e).1
        exact ⟨by rw [add_zero']; exact this.2.1, by rw [add_add]; exact this.2.2.1, trivial⟩
      refine need_of ⟨by omega, by omega⟩ (osome_mk ha ?_)
      rw [show Int.toNat (j : Int) = j by omega]
      refine loads_of ((mj.p, mj.l, mj.c), (mj.x.num : Int), ()) (hst h7 e7) ?_
      dsimp only [flat, unc, unc1, List.nil_append, List.cons_append]
      refine need_of ⟨by omega, by omega⟩ (osome_mk ha ?_)
      refine loads_of ((mj.p, mj.l, mj.c), (mj.x.num : Int), ()) (hst h7 e7) ?_
      dsimp only [flat, unc, unc1, List.nil_append, List.cons_append]
      have hnf : Nf mj.x.terms := by rw [hmx.2]; exact sol_nf (ownE_mem es) hc hmx.1
      have hnum : mj.x.num < 4294967296 := by
        rw [hmx.2]
        have hs : solE es mj.name = putS (solO (ownE es) (linE es) (namesE es)) (linE es mj.name) := sol_eq (ownE_mem es) hc hmx.1
        rw [hs]
        refine putS_num ?_
        obtain ⟨e, he, _, hx⟩ := linE_mem hmx.1
        rw [hx]; exact hi.num e he
      have hput : linAdd (putS (linO ms) mj.x) linZ = mj.x := by
        have : putS (linO ms) mj.x = mj.x := by
          refine putS_none hnf fun t ht => ?_
          unfold linO
          refine if_neg fun ho => ?_
          have h1 := (ownE_mem ms _).1 ho
          rw [hnames] at h1
          rw [hmx.2] at ht
          have h2 := (sol_names (ownE_mem es) hc hmx.1 t ht).1
          rw [(ownE_mem es _).2 h1] at h2
          cases h2
        rw [this, linAdd_zero hnf hnum]
      refine call_of (put_hc (x := mj.x) (c := mj.c) (d := l15) hvt (vm6.keep e7) mo hmtl mtot (by omega) hml hms') ?_
      rintro _ h8 ⟨⟨p45, l46, c47, rfl, s8⟩, e8⟩
      rw [hput] at s8
      refine ⟨((p45, l46, c47), (mj.x.num : Int), ()), by rw [hput]; rfl, ?_⟩
      dsimp only [flat, unc, unc1, List.nil_append, List.cons_append]
      refine ⟨⟨hst h8 (e7.trans e8), trivial⟩, ?_⟩
      refine call_boolx (same64_hc (x := mj.x) (y := mj.x) (c := c47) (d := mj.c) (vwT_sl s8) (hat h8 (e7.trans e8)).2 (by omega)) ?_
      intro h9 e9
      have e69 := (e7.trans e8).trans e9
      refine ⟨⟨hst h9 e69, trivial⟩, ?_⟩
      refine cond_f (by rw [linB_refl]; rfl) ?_
      have hwj : IntKind.wrap .i64 ((j : Int) + 1) = ((j + 1 : Nat) : Int) := by rw [wrap_i64 (by omega) (by omega)]; omega
      exact again_mk (cs := biCs) (b33, ((j + 1 : Nat) : Int), ()) (ms.length - (j + 1)) rfl (by omega) (by rw [hwj]; rfl) ⟨j + 1, rfl, by omega, rfl, e69⟩
end Go.Sx

set_option linter.unusedVariables false
set_option maxRecDepth 100000
namespace Go.Sx
open Go.Proofs
theorem copyLin_hc {h : Hp} {p : Option Addr} {l c : Nat} {x : Lin} (v : VwT h p l x.terms) (hl : x.terms.length ≤ 2 ^ 20) :
    HC Try.prog 32 #[linV p l c x] h fun w h' => (∃ p' l' c', w = linV p' l' c' x ∧ SL h' h.size 40 2 p' l' c' (x.terms.map encT)) ∧ Ext h h' := by
  refine hcr_of (args := [linV p l c x]) mixed Try.func32 (by kernel_rfl) (t_spandrelkeep_CopyLin_eq p l c x.num) ?_
  unfold t_spandrelkeep_CopyLin
  have hll := v.len
  refine newB ?_
  intro h1 b1 e1 z1
  refine newB ?_
  intro h2 b2 e2 z2
  have b12 := b1.keep e2 (by simp)
  have e02 := e1.trans e2
  refine loads_box b12 ((p, l, c), ()) rfl ?_
  dsimp only [flat, unc, unc1, List.nil_append, List.cons_append]
  rw [add_box]
  refine loads_box b12 ((x.num : Int), ()) rfl ?_
  dsimp only [flat, unc, unc1, List.nil_append, List.cons_append]
  have v2 := v.keep e02 (by simp)
  refine lit0_of (e := 40) (z := .agg #[.string ⟨#[]⟩, .int .u32 0]) (sz := 2) (by' := 24) und67 termZ ?_
  intro h3 s3 e3
  have b13 := b12.keep e3 (by simp)
  refine ⟨⟨b13.cells _ rfl, b13.cells _ rfl, trivial⟩, ?_⟩
  have hz3 := e3.size
  have fin : ∀ (p' : Option Addr) (c' : Nat) (h' : Hp), SL h' h2.size 40 2 p' l c' (x.terms.map encT) → Ext h2 h' → T.stable [(⟨h.size, 0 + 1, none⟩, [.int .u32 (x.num : Int)])] (T.stores ⟨h1.size, 0, none⟩ [.slice p' l c', .int .u32 (x.num : Int)] (T.loads ⟨h1.size, 0, none⟩ [.slice 40, .int .u32] fun (p13 : Option Addr) (l14 : Nat) (l15 : Nat) (n16 : Int) =>
      T.ret (.agg #[.slice p13 l14 l15, .int .u32 n16]))) [] (fun w h' => (∃ p' l' c', w = linV p' l' c' x ∧ SL h' h.size 40 2 p' l' c' (x.terms.map encT)) ∧ Ext h h') h' := by
    intro p' c' h' s' e'
    have b1' := b12.keep e' (by simp)
    refine ⟨⟨b1'.cells _ rfl, trivial⟩, ?_⟩
    refine stores_of (b2.keep e' (by simp)) rfl (by simp) ?_
    intro h5 b5 k5 z5
    have b5 : Box h5 h1.size 36 [.slice p' l c', .int .u32 (x.num : Int)] := b5
    refine loads_box b5 ((p', l, c'), (x.num : Int), ()) rfl ?_
    exact ⟨⟨p', l, c', rfl, (s'.keep' k5 (fun j hj => by have := (s'.blk hj).1; simp; omega)).mono (by omega)⟩, Ch.trans (e02.trans e') k5 (fun j hj hl => by simp at hj; omega)⟩
  obtain ⟨i, hi, hz, hsz, hby⟩ := inf_of termZ
  rcases vwT_src v2 with ⟨hp, hys⟩ | ⟨a, ha, hc⟩
  · subst hp
    have hl0 : l = 0 := by
      have := congrArg List.length hys
      rw [List.length_map, List.length_nil] at this
      omega
    subst hl0
    refine sem_slice ?_
    simp [Builtin.append_, semW_bind', semW_underlying und67, semW_sizeOf hi, Builtin.lenOf, Builtin.firstCells, storeCells]
    exact ⟨_, _, _, rfl, fin _ _ _ (by rw [hys]; exact s3) e3⟩
  · subst ha
    refine sem_slice ?_
    refine append_of (ys := x.terms.map encT) und67 hi hz (by rw [hsz]; rfl) (by rw [hsz]; exact s3) (by rw [List.length_map]; omega) (fun y hy => by rw [hsz]; exact encT_len _ y hy) (cellsAt_keep e3 (by simp) _ _ hc) (encT_plain _) (by rw [hby]; omega) (by omega) (by omega) ?_
    intro p' c' h4 s4 k4 hp4
    rw [Nat.zero_add, List.nil_append] at *
    rw [hsz] at s4
    exact ⟨p', l, c', rfl, fin p' c' h4 s4 (Ch.trans e3 k4 fun j hj hl => by simp [blkOf] at hj; omega)⟩
/-- CopyUnit behind its first part. -/
def copyT (a1 a24 a2 : Addr) : T :=
     T.loop [(false, [.int .i64])] [.int .i64 (0 : Int)] <| fun (n25 : Int) =>
     T.loads (a1.add 2) [.slice 38] <| fun (p26 : Option Addr) (l27 : Nat) (l28 : Nat) =>
     cond (decide (n25 < (l27 : Int)))
      (T.loads (a24.add 2) [.slice 38] <| fun (p29 : Option Addr) (l30 : Nat) (l31 : Nat) =>
      T.loads (a1.add 2) [.slice 38] <| fun (p32 : Option Addr) (l33 : Nat) (l34 : Nat) =>
      T.need (((0 : Int) ≤ n25) ∧ (n25 < (l33 : Int))) <|
      T.osome p32 <| fun (a35 : Addr) =>
      T.loads (a35.add ((Int.toNat n25) * 3)) [.string] <| fun (s36 : ByteArray) =>
      T.loads (a1.add 2) [.slice 38] <| fun (p37 : Option Addr) (l38 : Nat) (l39 : Nat) =>
      T.need (((0 : Int) ≤ n25) ∧ (n25 < (l38 : Int))) <|
      T.osome p37 <| fun (a40 : Addr) =>
      T.loads ((a40.add ((Int.toNat n25) * 3)).add 1) [.slice 40, .int .u32] <| fun (p41 : Option Addr) (l42 : Nat) (l43 : Nat) (n44 : Int) =>
      T.call Try.prog 32 [.agg #[.slice p41 l42 l43, .int .u32 n44]] false [(true, [.slice 40, .int .u32])] <| fun (p45 : Option Addr) (l46 : Nat) (l47 : Nat) (n48 : Int) =>
      T.stable [((a1.add 2), [.slice p37 l38 l39]), ((a35.add ((Int.toNat n25) * 3)), [.string s36]), ((a1.add 2), [.slice p32 l33 l34]), ((a24.add 2), [.slice p29 l30 l31])] <|
      T.sem Try.prog (Instr.buildSlice 22 1 #[(0, .agg #[.string s36, .slice p45 l46 l47, .int .u32 n48])]) false [(false, [.slice 0])] <| fun (p49 : Option Addr) (l50 : Nat) (l51 : Nat) =>
      T.stable [(((a40.add ((Int.toNat n25) * 3)).add 1), [.slice p41 l42 l43, .int .u32 n44]), ((a1.add 2), [.slice p37 l38 l39]), ((a35.add ((Int.toNat n25) * 3)), [.string s36]), ((a1.add 2), [.slice p32 l33 l34]), ((a24.add 2), [.slice p29 l30 l31])] <|
      T.sem Try.prog (Builtin.append_ #[22, 22] 22 #[.slice p29 l30 l31, .slice p49 l50 l51]) false [(false, [.slice 0])] <| fun (p52 : Option Addr) (l53 : Nat) (l54 : Nat) =>
      T.stable [(((a40.add ((Int.toNat n25) * 3)).add 1), [.slice p41 l42 l43, .int .u32 n44]), ((a1.add 2), [.slice p37 l38 l39]), ((a35.add ((Int.toNat n25) * 3)), [.string s36]), ((a1.add 2), [.slice p32 l33 l34])] <|
      T.stores (a24.add 2) [.slice p52 l53 l54] <|
      T.again 0 [.int .i64 (IntKind.wrap .i64 (n25 + (1 : Int)))])
      (T.loads a24 [.slice 94, .slice 94, .slice 38, .slice 9] <| fun (p29 : Option Addr) (l30 : Nat) (l31 : Nat) (p32 : Option Addr) (l33 : Nat) (l34 : Nat) (p35 : Option Addr) (l36 : Nat) (l37 : Nat) (p38 : Option Addr) (l39 : Nat) (l40 : Nat) =>
      T.stores a2 [.slice p29 l30 l31, .slice p32 l33 l34, .slice p35 l36 l37, .slice p38 l39 l40] <|
      T.loads a2 [.slice 94, .slice 94, .slice 38, .slice 9] <| fun (p41 : Option Addr) (l42 : Nat) (l43 : Nat) (p44 : Option Addr) (l45 : Nat) (l46 : Nat) (p47 : Option Addr) (l48 : Nat) (l49 : Nat) (p50 : Option Addr) (l51 : Nat) (l52 : Nat) =>
      T.ret (.agg #[.slice p41 l42 l43, .slice p44 l45 l46, .slice p47 l48 l49, .slice p50 l51 l52]))
/-- What CopyUnit of a unit of equs comes to. -/
def CopyR (es : List EqM) (h : Hp) (w : Value) (h' : Hp) : Prop :=
  (∃ p1 l1 c1 p2 l2 c2 p l c p4 l4 c4 ws, w = .agg #[.slice p1 l1 c1, .slice p2 l2 c2, .slice p l c, .slice p4 l4 c4] ∧ VwE h' p l ws ∧ (∀ i, i ∈ blkOf p → i < h'.size) ∧ ws.map eKey = es.map eKey) ∧ Ext h h'
/-- The boxes of CopyUnit. -/
structure CU (h0 : Hp) (p : Option Addr) (l c : Nat) (h : Hp) : Prop where
  b1 : Box h h0.size 47 [.slice none 0 0, .slice none 0 0, .slice p l c, .slice none 0 0]
  b2 : Box h (h0.size + 1) 47 [.slice none 0 0, .slice none 0 0, .slice none 0 0, .slice none 0 0]
  ext : Ext h0 h
theorem CU.keep {h0 : Hp} {p : Option Addr} {l c : Nat} {h h' : Hp} (s : CU h0 p l c h) (e : Ext h h') : CU h0 p l c h' := ⟨s.b1.keep e (by simp), s.b2.keep e (by simp), s.ext.trans e⟩
theorem und29s : Try.prog.underlying 29 = some (.slice 9) := und29
theorem copyT_ok {h0 h1 : Hp} {p : Option Addr} {l c : Nat} {es : List EqM} (v : VwE h0 p l es) (hl : es.length ≤ 2 ^ 20) (htl : ∀ e, e ∈ es → e.x.terms.length ≤ 2 ^ 20) (s : CU h0 p l c h1) {g : Nat} {p1 p2 p4 : Option Addr} {l1 c1 l2 c2 l4 c4 : Nat} (hg : h0.size + 1 < g) (b : Box h1 g 47 [.slice p1 l1 c1, .slice p2 l2 c2, .slice none 0 0, .slice p4 l4 c4]) :
    copyT ⟨h0.size, 0, none⟩ ⟨g, 0, none⟩ ⟨h0.size + 1, 0, none⟩ [] (CopyR es h0) h1 := by
  unfold copyT
  have hll := v.len
  have hgl := b.lt
  refine loop_of (cs := iCs) (fun x w h' => ∃ (i : Nat) (p' : Option Addr) (l' c' : Nat) (ws : List EqM), x.1 = (i : Int) ∧ i ≤ es.length ∧ w = es.length - i ∧ Ch [g] h1 h' ∧ Box h' g 47 [.slice p1 l1 c1, .slice p2 l2 c2, .slice p' l' c', .slice p4 l4 c4] ∧ OwnE h' h1.size p' l' c' ws ∧ ws.map eKey = (es.take i).map eKey)
    ((0 : Int), ()) es.length rfl ⟨0, none, 0, 0, [], rfl, by omega, by omega, Ch.refl _ _, b, ⟨SL.nil _ _ _ _, by simp, List.Pairwise.nil, by simp⟩, rfl⟩ ?_
  rintro ⟨n25, ⟨⟩⟩ w h2 ⟨i, p', l', c', ws, hi0, hile, rfl, k2, b2, own, hws⟩
  simp only at hi0
  subst hi0
  dsimp only [flat, unc, unc1, List.nil_append, List.cons_append]
  have e02 : Ext h0 h2 := Ch.trans s.ext k2 (fun j hj hl => by simp at hj; omega)
  have hz1 := s.ext.size
  have hz2 := k2.size
  have ba := s.b1.keep k2 (by simp; omega)
  have bb := s.b2.keep k2 (by simp; omega)
  rw [add_box, add_box]
  refine loads_box ba ((p, l, c), ()) rfl ?_
  dsimp only [flat, unc, unc1, List.nil_append, List.cons_append]
  refine cond_mk (fun g1 => ?_) (fun g1 => ?_)
  · have g1 := of_decide_eq_true g1
    have hilt : i < es.length := by omega
    refine loads_box b2 ((p', l', c'), ()) rfl ?_
    dsimp only [flat, unc, unc1, List.nil_append, List.cons_append]
    refine loads_box ba ((p, l, c), ()) rfl ?_
    dsimp only [flat, unc, unc1, List.nil_append, List.cons_append]
    obtain ⟨a, ha, hat⟩ := v.at hilt
    have htk : es.take (i + 1) = es.take i ++ [es[i]] := List.take_succ_eq_append_getElem hilt
    have htl := htl es[i] (List.getElem_mem hilt)
    generalize es[i] = e at hat htk htl
    have hst1 : ∀ h', Ext h2 h' → cellsAt h' (a.add (i * 3)) 0 [.string e.name] := fun h' x => ⟨(hat h' (e02.trans x)).1.1, trivial⟩
    have hst2 : ∀ h', Ext h2 h' → cellsAt h' ((a.add (i * 3)).add 1) 0 [.slice e.p e.l e.c, .int .u32 (e.x.num : Int)] := fun h' x => by
      have := (hat h' (e02.trans x)).1
      exact ⟨by rw [add_zero']; exact this.2.1, by rw [add_add]; exact this.2.2.1, trivial⟩
    refine need_of ⟨by omega, by omega⟩ (osome_mk ha ?_)
    rw [show Int.toNat (i : Int) = i by omega]
    refine loads_of (e.name, ()) (hst1 h2 (Ch.refl _ _)) ?_
    dsimp only [flat, unc, unc1, List.nil_append, List.cons_append]
    refine loads_box ba ((p, l, c), ()) rfl ?_
    dsimp only [flat, unc, unc1, List.nil_append, List.cons_append]
    refine need_of ⟨by omega, by omega⟩ (osome_mk ha ?_)
    refine loads_of ((e.p, e.l, e.c), (e.x.num : Int), ()) (hst2 h2 (Ch.refl _ _)) ?_
    dsimp only [flat, unc, unc1, List.nil_append, List.cons_append]
    refine call_of (copyLin_hc (x := e.x) (c := e.c) (hat h2 e02).2 htl) ?_
    rintro _ h3 ⟨⟨pc, lc, cc, rfl, sc⟩, e3⟩
    refine ⟨((pc, lc, cc), (e.x.num : Int), ()), rfl, ?_⟩
    dsimp only [flat, unc, unc1, List.nil_append, List.cons_append]
    have own3 := own.keep e3 (by simp)
    have st : ∀ h', Ext h2 h' → cellsAt h' ⟨h0.size, 0 + 2, none⟩ 0 [.slice p l c] := fun h' x => (ba.keep x (by simp)).cells _ rfl
    have st' : ∀ h', Ext h2 h' → cellsAt h' ⟨g, 0 + 2, none⟩ 0 [.slice p' l' c'] := fun h' x => (b2.keep x (by simp)).cells _ rfl
    refine ⟨⟨st h3 e3, hst1 h3 e3, st h3 e3, st' h3 e3, trivial⟩, ?_⟩
    have hwl : ws.length = i := by have := congrArg List.length hws; simp at this; omega
    have hol : l' = ws.length := by rw [own.out.1, List.length_map]
    have hz3 := e3.size
    refine push_st (vs := eqV ⟨e.name, pc, lc, cc, e.x⟩) und22 equZ rfl (by omega) (by omega) (by kernel_rfl) rfl rfl own3.out (by omega) (by omega) (by omega) (fun h' x => ⟨hst2 h' (e3.trans x), st h' (e3.trans x), hst1 h' (e3.trans x), st h' (e3.trans x), st' h' (e3.trans x), trivial⟩) ?_
    intro p5 c5 h5 s5 k5 hp5
    have hbb : ∀ j, j ∈ blkOf p' → h1.size ≤ j ∧ j < h2.size := fun j hj => own.out.blk hj
    have k05 : Ch (blkOf p') h0 h5 := Ch.trans ((e02.trans e3).mono (by simp)) k5 (fun j hj _ => hj)
    have e05 : Ext h0 h5 := k05.mono fun j hj hl => by have := hbb j hj; omega
    have ba5 := (ba.keep e3 (by simp)).keep k5 (fun hj => by have := hbb _ hj; omega)
    have cE := (hat h5 e05).1
    refine ⟨⟨⟨by rw [add_zero']; exact cE.2.1, by rw [add_add]; exact cE.2.2.1, trivial⟩, ba5.cells _ rfl, ⟨cE.1, trivial⟩, ba5.cells _ rfl, trivial⟩, ?_⟩
    have b5 := (b2.keep e3 (by simp)).keep k5 (fun hj => by have := hbb _ hj; omega)
    refine stores_of b5 rfl (by simp) ?_
    intro h6 b6 k6 z6
    have b6 : Box h6 g 47 [.slice p1 l1 c1, .slice p2 l2 c2, .slice p5 (l' + 1) c5, .slice p4 l4 c4] := b6
    have hp5' : ∀ j, j ∈ blkOf p5 → j ∈ blkOf p' ∨ h3.size ≤ j := by
      intro j hj
      rcases hp5 with h | ⟨a, h, hle⟩
      · rw [h] at hj; exact .inl hj
      · rw [h] at hj; simp [blkOf] at hj; subst hj; exact .inr hle
    have own5 : OwnE h5 h1.size p5 (l' + 1) c5 (ws ++ [⟨e.name, pc, lc, cc, e.x⟩]) := by
      refine own3.push (m := ⟨e.name, pc, lc, cc, e.x⟩) (sc.mono (by omega)) (fun j hj => ?_) (by simpa using s5) k5 hp5'
      have hj2 := sc.blk hj
      refine ⟨fun z hz k hk => ?_, fun hjp => ?_⟩
      · have := ((own.inn z hz).blk hk).2
        omega
      · have := hbb j hjp
        omega
    have hw : IntKind.wrap .i64 ((i : Int) + 1) = ((i + 1 : Nat) : Int) := by rw [wrap_i64 (by omega) (by omega)]; omega
    refine again_mk (cs := iCs) (((i + 1 : Nat) : Int), ()) (es.length - (i + 1)) rfl (by omega) (by rw [hw]; rfl) ⟨i + 1, p5, l' + 1, c5, _, rfl, by omega, rfl, ?_, b6, own5.keep k6 (fun j hj => by simp at hj; omega), ?_⟩
    · exact Ch.trans (Ch.trans (Ch.trans k2 e3 (by simp)) k5 (fun j hj hl => by have := hbb j hj; omega)) k6 (fun j hj _ => hj)
    · rw [List.map_append, hws, htk, List.map_append]
      rfl
  · have g1 := of_decide_eq_false g1
    have htk : es.take i = es := List.take_of_length_le (by omega)
    rw [htk] at hws
    refine loads_box b2 ((p1, l1, c1), (p2, l2, c2), (p', l', c'), (p4, l4, c4), ()) rfl ?_
    dsimp only [flat, unc, unc1, List.nil_append, List.cons_append]
    refine stores_of bb rfl (by simp) ?_
    intro h3 b3 k3 z3
    have b3 : Box h3 (h0.size + 1) 47 [.slice p1 l1 c1, .slice p2 l2 c2, .slice p' l' c', .slice p4 l4 c4] := b3
    refine loads_box b3 ((p1, l1, c1), (p2, l2, c2), (p', l', c'), (p4, l4, c4), ()) rfl ?_
    have h1' : h0.size + 1 < h1.size := by have := s.b2.lt; omega
    have own3 := own.keep k3 (fun j hj => by simp at hj; omega)
    exact ⟨⟨p1, l1, c1, p2, l2, c2, p', l', c', p4, l4, c4, ws, rfl, vwE_own own3, fun i hi => (own3.out.blk hi).2, hws⟩, Ch.trans e02 k3 (fun j hj hl => by simp at hj; omega)⟩
end Go.Sx

set_option linter.unusedVariables false
set_option maxRecDepth 100000
namespace Go.Sx
open Go.Proofs
theorem und45 : Try.prog.underlying 45 = some (.slice 94) := by kernel_rfl
theorem itemB : ((Try.prog.info? 94).bind (·.zero)).isSome = true := by kernel_rfl
theorem itemI : ∃ i z, Try.prog.info? 94 = some i ∧ i.zero = some z := by
  have h := itemB
  cases hi : Try.prog.info? 94 with
  | none => rw [hi] at h; cases h
  | some i =>
    rw [hi] at h
    obtain ⟨z, hz⟩ := Option.isSome_iff_exists.1 h
    exact ⟨i, z, rfl, hz⟩
section
variable {L : Lp} {K : Value → Hp → Prop} {h : Hp}
theorem make0_of {k : Option Addr → Nat → Nat → T} (hk : ∀ p c h', Ext h h' → k p 0 c L K h') : T.sem Try.prog (Instr.makeSlice 45 (.int .i64 ((0 : Nat) : Int)) (.int .i64 ((0 : Nat) : Int))) false [(false, [.slice 0])] k L K h := by
  obtain ⟨i, z, hi, hz⟩ := itemI
  refine sem_slice (makeSlice_of und45 hi hz (Nat.le_refl 0) (by omega) (by omega) ?_)
  intro h' b e z'
  exact ⟨_, _, _, rfl, hk _ _ h' e⟩
theorem items0_hc (h : Hp) : HC Try.prog 31 #[.slice none 0 0] h fun w h' => (∃ p l c, w = .slice p l c) ∧ Ext h h' := by
  refine hcr_of (args := [.slice none 0 0]) mixed Try.func31 (by kernel_rfl) (t_spandrelkeep_CopyItems_eq none 0 0) ?_
  unfold t_spandrelkeep_CopyItems
  refine make0_of ?_
  intro p1 l3 h1 e1
  refine loop_of (cs := iCs) (fun x w h' => x.1 = (0 : Int) ∧ h' = h1) ((0 : Int), ()) 0 rfl ⟨rfl, rfl⟩ ?_
  rintro ⟨n4, ⟨⟩⟩ w h2 ⟨hx, rfl⟩
  simp only at hx
  subst hx
  dsimp only [flat, unc, unc1, List.nil_append, List.cons_append]
  refine cond_f rfl ?_
  exact ⟨⟨_, _, _, rfl⟩, e1⟩
theorem items0_of {k : Option Addr → Nat → Nat → T} (hk : ∀ p l c h', Ext h h' → k p l c L K h') : T.call Try.prog 31 [.slice none 0 0] false [(false, [.slice 94])] k L K h := by
  refine call_of (items0_hc h) ?_
  rintro _ h' ⟨⟨p, l, c, rfl⟩, e⟩
  exact ⟨((p, l, c), ()), rfl, hk p l c h' e⟩
theorem app0_of {b : Nat} {q : Option Addr} {m cc : Nat} (s : SL h b 9 1 q m cc []) {k : Option Addr → Nat → Nat → T} (hk : ∀ p l c h', Ext h h' → k p l c L K h') : T.sem Try.prog (Builtin.append_ #[29, 29] 29 #[.slice q m cc, .slice none 0 0]) false [(false, [.slice 0])] k L K h := by
  obtain ⟨i, hi, hz, hsz, hby⟩ := inf_of strZS
  have hm : m = 0 := s.1
  subst hm
  refine sem_slice ?_
  cases q <;> simp [Builtin.append_, semW_bind', semW_underlying und29, semW_sizeOf hi, Builtin.lenOf, Builtin.firstCells, storeCells] <;> exact ⟨_, _, _, rfl, hk _ _ _ h (Ch.refl _ _)⟩
theorem newG {h0 : Hp} {p : Option Addr} {l c : Nat} (s : CU h0 p l c h) {k : Addr → T} (hk : ∀ h' g, Box h' g 47 [.slice none 0 0, .slice none 0 0, .slice none 0 0, .slice none 0 0] → h0.size + 1 < g → Ext h h' → k ⟨g, 0, none⟩ L K h') : T.new [.slice none 0 0, .slice none 0 0, .slice none 0 0, .slice none 0 0] 47 k L K h :=
  newB fun h' b e z => hk h' h.size b s.b2.lt e
end
section
variable {h0 h : Hp} {p : Option Addr} {l c : Nat}
theorem CU.c0 (s : CU h0 p l c h) : cellsAt h ⟨h0.size, 0, none⟩ 0 [.slice none 0 0] := s.b1.cells _ rfl
theorem CU.c1 (s : CU h0 p l c h) : cellsAt h (Addr.add ⟨h0.size, 0, none⟩ 1) 0 [.slice none 0 0] := by rw [add_box]; exact s.b1.cells _ rfl
theorem CU.c3 (s : CU h0 p l c h) : cellsAt h (Addr.add ⟨h0.size, 0, none⟩ 3) 0 [.slice none 0 0] := by rw [add_box]; exact s.b1.cells _ rfl
theorem CU.keepG {h' : Hp} {g : Nat} (s : CU h0 p l c h) (k : Ch [g] h h') (hg : h0.size + 1 < g) : CU h0 p l c h' :=
  ⟨s.b1.keep k (by simp; omega), s.b2.keep k (by simp; omega), Ch.trans s.ext k (fun j hj hl => by simp at hj; omega)⟩
end
theorem copyUnit_hc {h : Hp} {p : Option Addr} {l c : Nat} {es : List EqM} (v : VwE h p l es) (hl : es.length ≤ 2 ^ 20) (htl : ∀ e, e ∈ es → e.x.terms.length ≤ 2 ^ 20) :
    HC Try.prog 13 #[.agg #[.slice none 0 0, .slice none 0 0, .slice p l c, .slice none 0 0]] h (CopyR es h) := by
  refine hcr_of (args := [.agg #[.slice none 0 0, .slice none 0 0, .slice p l c, .slice none 0 0]]) mixed Try.func13 (by kernel_rfl) (t_spandrelkeep_CopyUnit_eqs_eq p l c) ?_
  unfold t_spandrelkeep_CopyUnit_eqs
  refine newB ?_
  intro h1 b1 e1 z1
  refine newB ?_
  intro h2 b2 e2 z2
  rw [z1] at b2
  rw [show (⟨h1.size, 0, none⟩ : Addr) = ⟨h.size + 1, 0, none⟩ by rw [z1]]
  have s : CU h p l c h2 := ⟨b1.keep e2 (by simp), b2, e1.trans e2⟩
  refine loads_of ((none, 0, 0), ()) s.c0 ?_
  dsimp only [flat, unc, unc1, List.nil_append, List.cons_append]
  refine loads_of ((none, 0, 0), ()) s.c1 ?_
  dsimp only [flat, unc, unc1, List.nil_append, List.cons_append]
  refine loads_of ((none, 0, 0), ()) s.c3 ?_
  dsimp only [flat, unc, unc1, List.nil_append, List.cons_append]
  refine ⟨?_, ?_, ?_, trivial⟩
  · refine items0_of ?_
    intro p1 l1 c1 h1 e1
    have s := s.keep e1
    refine ⟨⟨s.c3, s.c1, trivial⟩, ?_⟩
    refine ⟨?_, ?_, ?_, trivial⟩
    · refine items0_of ?_
      intro p2 l2 c2 h2 e2
      have s := s.keep e2
      refine ⟨⟨s.c3, s.c0, trivial⟩, ?_⟩
      refine ⟨?_, ?_, trivial⟩
      · refine lit0_of und29 strZS ?_
        intro h3 sl e3
        have s := s.keep e3
        refine ⟨⟨s.c3, s.c1, s.c0, trivial⟩, ?_⟩
        refine ⟨?_, ?_, trivial⟩
        · refine app0_of sl ?_
          intro p4 l4 c4 h4 e4
          have s := s.keep e4
          refine ⟨⟨s.c1, s.c0, trivial⟩, ?_⟩
          refine newG s ?_
          intro h5 g b hg e5
          have s := s.keep e5
          refine ⟨⟨s.c3, s.c1, s.c0, trivial⟩, ?_⟩
          refine stores_of b rfl (by simp) ?_
          intro h9 b9 k9 z9
          exact copyT_ok v hl htl (s.keepG k9 hg) hg b9
        · refine newG s ?_
          intro h7 g b hg e7
          have s := s.keep e7
          have sl := sl.keep e7 (by simp)
          refine ⟨⟨s.c3, s.c1, s.c0, trivial⟩, ?_⟩
          refine app0_of sl ?_
          intro p8 l8 c8 h8 e8
          have s := s.keep e8
          have b := b.keep e8 (by simp)
          have hg : h.size + 1 < g := hg
          refine ⟨⟨s.c1, s.c0, trivial⟩, ?_⟩
          refine stores_of b rfl (by simp) ?_
          intro h9 b9 k9 z9
          exact copyT_ok v hl htl (s.keepG k9 hg) hg b9
      · refine newG s ?_
        intro h10 g b hg e10
        have s := s.keep e10
        refine ⟨⟨s.c3, s.c1, s.c0, trivial⟩, ?_⟩
        refine lit0_of und29 strZS ?_
        intro h11 sl e11
        have s := s.keep e11
        have b := b.keep e11 (by simp)
        refine ⟨⟨s.c3, s.c1, s.c0, trivial⟩, ?_⟩
        refine app0_of sl ?_
        intro p12 l12 c12 h12 e12
        have s := s.keep e12
        have b := b.keep e12 (by simp)
        have hg : h.size + 1 < g := hg
        refine ⟨⟨s.c1, s.c0, trivial⟩, ?_⟩
        refine stores_of b rfl (by simp) ?_
        intro h9 b9 k9 z9
        exact copyT_ok v hl htl (s.keepG k9 hg) hg b9
    · refine lit0_of und29 strZS ?_
      intro h14 sl e14
      have s := s.keep e14
      refine ⟨⟨s.c3, s.c1, s.c0, trivial⟩, ?_⟩
      refine ⟨?_, ?_, trivial⟩
      · refine items0_of ?_
        intro p15 l15 c15 h15 e15
        have s := s.keep e15
        have sl := sl.keep e15 (by simp)
        refine ⟨⟨s.c3, s.c0, trivial⟩, ?_⟩
        refine ⟨?_, ?_, trivial⟩
        · refine app0_of sl ?_
          intro p16 l16 c16 h16 e16
          have s := s.keep e16
          refine ⟨⟨s.c1, s.c0, trivial⟩, ?_⟩
          refine newG s ?_
          intro h17 g b hg e17
          have s := s.keep e17
          refine ⟨⟨s.c3, s.c1, s.c0, trivial⟩, ?_⟩
          refine stores_of b rfl (by simp) ?_
          intro h9 b9 k9 z9
          exact copyT_ok v hl htl (s.keepG k9 hg) hg b9
        · refine newG s ?_
          intro h19 g b hg e19
          have s := s.keep e19
          have sl := sl.keep e19 (by simp)
          refine ⟨⟨s.c3, s.c1, s.c0, trivial⟩, ?_⟩
          refine app0_of sl ?_
          intro p20 l20 c20 h20 e20
          have s := s.keep e20
          have b := b.keep e20 (by simp)
          have hg : h.size + 1 < g := hg
          refine ⟨⟨s.c1, s.c0, trivial⟩, ?_⟩
          refine stores_of b rfl (by simp) ?_
          intro h9 b9 k9 z9
          exact copyT_ok v hl htl (s.keepG k9 hg) hg b9
      · refine newG s ?_
        intro h22 g b hg e22
        have s := s.keep e22
        have sl := sl.keep e22 (by simp)
        refine ⟨⟨s.c3, s.c1, s.c0, trivial⟩, ?_⟩
        refine items0_of ?_
        intro p23 l23 c23 h23 e23
        have s := s.keep e23
        have b := b.keep e23 (by simp)
        have hg : h.size + 1 < g := hg
        have sl := sl.keep e23 (by simp)
        refine ⟨⟨s.c3, s.c0, trivial⟩, ?_⟩
        refine app0_of sl ?_
        intro p24 l24 c24 h24 e24
        have s := s.keep e24
        have b := b.keep e24 (by simp)
        have hg : h.size + 1 < g := hg
        refine ⟨⟨s.c1, s.c0, trivial⟩, ?_⟩
        refine stores_of b rfl (by simp) ?_
        intro h9 b9 k9 z9
        exact copyT_ok v hl htl (s.keepG k9 hg) hg b9
    · refine newG s ?_
      intro h26 g b hg e26
      have s := s.keep e26
      refine ⟨⟨s.c3, s.c1, s.c0, trivial⟩, ?_⟩
      refine ⟨?_, ?_, trivial⟩
      · refine items0_of ?_
        intro p27 l27 c27 h27 e27
        have s := s.keep e27
        have b := b.keep e27 (by simp)
        have hg : h.size + 1 < g := hg
        refine ⟨⟨s.c3, s.c0, trivial⟩, ?_⟩
        refine lit0_of und29 strZS ?_
        intro h28 sl e28
        have s := s.keep e28
        have b := b.keep e28 (by simp)
        refine ⟨⟨s.c3, s.c1, s.c0, trivial⟩, ?_⟩
        refine app0_of sl ?_
        intro p29 l29 c29 h29 e29
        have s := s.keep e29
        have b := b.keep e29 (by simp)
        have hg : h.size + 1 < g := hg
        refine ⟨⟨s.c1, s.c0, trivial⟩, ?_⟩
        refine stores_of b rfl (by simp) ?_
        intro h9 b9 k9 z9
        exact copyT_ok v hl htl (s.keepG k9 hg) hg b9
      · refine lit0_of und29 strZS ?_
        intro h31 sl e31
        have s := s.keep e31
        have b := b.keep e31 (by simp)
        refine ⟨⟨s.c3, s.c1, s.c0, trivial⟩, ?_⟩
        refine items0_of ?_
        intro p32 l32 c32 h32 e32
        have s := s.keep e32
        have b := b.keep e32 (by simp)
        have hg : h.size + 1 < g := hg
        have sl := sl.keep e32 (by simp)
        refine ⟨⟨s.c3, s.c0, trivial⟩, ?_⟩
        refine app0_of sl ?_
        intro p33 l33 c33 h33 e33
        have s := s.keep e33
        have b := b.keep e33 (by simp)
        have hg : h.size + 1 < g := hg
        refine ⟨⟨s.c1, s.c0, trivial⟩, ?_⟩
        refine stores_of b rfl (by simp) ?_
        intro h9 b9 k9 z9
        exact copyT_ok v hl htl (s.keepG k9 hg) hg b9
  · refine lit0_of und29 strZS ?_
    intro h35 sl e35
    have s := s.keep e35
    refine ⟨⟨s.c3, s.c1, s.c0, trivial⟩, ?_⟩
    refine ⟨?_, ?_, trivial⟩
    · refine items0_of ?_
      intro p36 l36 c36 h36 e36
      have s := s.keep e36
      have sl := sl.keep e36 (by simp)
      refine ⟨⟨s.c3, s.c1, trivial⟩, ?_⟩
      refine ⟨?_, ?_, trivial⟩
      · refine items0_of ?_
        intro p37 l37 c37 h37 e37
        have s := s.keep e37
        have sl := sl.keep e37 (by simp)
        refine ⟨⟨s.c3, s.c0, trivial⟩, ?_⟩
        refine ⟨?_, ?_, trivial⟩
        · refine app0_of sl ?_
          intro p38 l38 c38 h38 e38
          have s := s.keep e38
          refine ⟨⟨s.c1, s.c0, trivial⟩, ?_⟩
          refine newG s ?_
          intro h39 g b hg e39
          have s := s.keep e39
          refine ⟨⟨s.c3, s.c1, s.c0, trivial⟩, ?_⟩
          refine stores_of b rfl (by simp) ?_
          intro h9 b9 k9 z9
          exact copyT_ok v hl htl (s.keepG k9 hg) hg b9
        · refine newG s ?_
          intro h41 g b hg e41
          have s := s.keep e41
          have sl := sl.keep e41 (by simp)
          refine ⟨⟨s.c3, s.c1, s.c0, trivial⟩, ?_⟩
          refine app0_of sl ?_
          intro p42 l42 c42 h42 e42
          have s := s.keep e42
          have b := b.keep e42 (by simp)
          have hg : h.size + 1 < g := hg
          refine ⟨⟨s.c1, s.c0, trivial⟩, ?_⟩
          refine stores_of b rfl (by simp) ?_
          intro h9 b9 k9 z9
          exact copyT_ok v hl htl (s.keepG k9 hg) hg b9
      · refine newG s ?_
        intro h44 g b hg e44
        have s := s.keep e44
        have sl := sl.keep e44 (by simp)
        refine ⟨⟨s.c3, s.c1, s.c0, trivial⟩, ?_⟩
        refine items0_of ?_
        intro p45 l45 c45 h45 e45
        have s := s.keep e45
        have b := b.keep e45 (by simp)
        have hg : h.size + 1 < g := hg
        have sl := sl.keep e45 (by simp)
        refine ⟨⟨s.c3, s.c0, trivial⟩, ?_⟩
        refine app0_of sl ?_
        intro p46 l46 c46 h46 e46
        have s := s.keep e46
        have b := b.keep e46 (by simp)
        have hg : h.size + 1 < g := hg
        refine ⟨⟨s.c1, s.c0, trivial⟩, ?_⟩
        refine stores_of b rfl (by simp) ?_
        intro h9 b9 k9 z9
        exact copyT_ok v hl htl (s.keepG k9 hg) hg b9
    · refine newG s ?_
      intro h48 g b hg e48
      have s := s.keep e48
      have sl := sl.keep e48 (by simp)
      refine ⟨⟨s.c3, s.c1, s.c0, trivial⟩, ?_⟩
      refine items0_of ?_
      intro p49 l49 c49 h49 e49
      have s := s.keep e49
      have b := b.keep e49 (by simp)
      have hg : h.size + 1 < g := hg
      have sl := sl.keep e49 (by simp)
      refine ⟨⟨s.c3, s.c1, trivial⟩, ?_⟩
      refine items0_of ?_
      intro p50 l50 c50 h50 e50
      have s := s.keep e50
      have b := b.keep e50 (by simp)
      have hg : h.size + 1 < g := hg
      have sl := sl.keep e50 (by simp)
      refine ⟨⟨s.c3, s.c0, trivial⟩, ?_⟩
      refine app0_of sl ?_
      intro p51 l51 c51 h51 e51
      have s := s.keep e51
      have b := b.keep e51 (by simp)
      have hg : h.size + 1 < g := hg
      refine ⟨⟨s.c1, s.c0, trivial⟩, ?_⟩
      refine stores_of b rfl (by simp) ?_
      intro h9 b9 k9 z9
      exact copyT_ok v hl htl (s.keepG k9 hg) hg b9
  · refine newG s ?_
    intro h53 g b hg e53
    have s := s.keep e53
    refine ⟨⟨s.c3, s.c1, s.c0, trivial⟩, ?_⟩
    refine ⟨?_, ?_, trivial⟩
    · refine items0_of ?_
      intro p54 l54 c54 h54 e54
      have s := s.keep e54
      have b := b.keep e54 (by simp)
      have hg : h.size + 1 < g := hg
      refine ⟨⟨s.c3, s.c1, trivial⟩, ?_⟩
      refine ⟨?_, ?_, trivial⟩
      · refine items0_of ?_
        intro p55 l55 c55 h55 e55
        have s := s.keep e55
        have b := b.keep e55 (by simp)
        have hg : h.size + 1 < g := hg
        refine ⟨⟨s.c3, s.c0, trivial⟩, ?_⟩
        refine lit0_of und29 strZS ?_
        intro h56 sl e56
        have s := s.keep e56
        have b := b.keep e56 (by simp)
        refine ⟨⟨s.c3, s.c1, s.c0, trivial⟩, ?_⟩
        refine app0_of sl ?_
        intro p57 l57 c57 h57 e57
        have s := s.keep e57
        have b := b.keep e57 (by simp)
        have hg : h.size + 1 < g := hg
        refine ⟨⟨s.c1, s.c0, trivial⟩, ?_⟩
        refine stores_of b rfl (by simp) ?_
        intro h9 b9 k9 z9
        exact copyT_ok v hl htl (s.keepG k9 hg) hg b9
      · refine lit0_of und29 strZS ?_
        intro h59 sl e59
        have s := s.keep e59
        have b := b.keep e59 (by simp)
        refine ⟨⟨s.c3, s.c1, s.c0, trivial⟩, ?_⟩
        refine items0_of ?_
        intro p60 l60 c60 h60 e60
        have s := s.keep e60
        have b := b.keep e60 (by simp)
        have hg : h.size + 1 < g := hg
        have sl := sl.keep e60 (by simp)
        refine ⟨⟨s.c3, s.c0, trivial⟩, ?_⟩
        refine app0_of sl ?_
        intro p61 l61 c61 h61 e61
        have s := s.keep e61
        have b := b.keep e61 (by simp)
        have hg : h.size + 1 < g := hg
        refine ⟨⟨s.c1, s.c0, trivial⟩, ?_⟩
        refine stores_of b rfl (by simp) ?_
        intro h9 b9 k9 z9
        exact copyT_ok v hl htl (s.keepG k9 hg) hg b9
    · refine lit0_of und29 strZS ?_
      intro h63 sl e63
      have s := s.keep e63
      have b := b.keep e63 (by simp)
      refine ⟨⟨s.c3, s.c1, s.c0, trivial⟩, ?_⟩
      refine items0_of ?_
      intro p64 l64 c64 h64 e64
      have s := s.keep e64
      have b := b.keep e64 (by simp)
      have hg : h.size + 1 < g := hg
      have sl := sl.keep e64 (by simp)
      refine ⟨⟨s.c3, s.c1, trivial⟩, ?_⟩
      refine items0_of ?_
      intro p65 l65 c65 h65 e65
      have s := s.keep e65
      have b := b.keep e65 (by simp)
      have hg : h.size + 1 < g := hg
      have sl := sl.keep e65 (by simp)
      refine ⟨⟨s.c3, s.c0, trivial⟩, ?_⟩
      refine app0_of sl ?_
      intro p66 l66 c66 h66 e66
      have s := s.keep e66
      have b := b.keep e66 (by simp)
      have hg : h.size + 1 < g := hg
      refine ⟨⟨s.c1, s.c0, trivial⟩, ?_⟩
      refine stores_of b rfl (by simp) ?_
      intro h9 b9 k9 z9
      exact copyT_ok v hl htl (s.keepG k9 hg) hg b9
end Go.Sx

set_option linter.unusedVariables false
set_option linter.unusedSimpArgs false
set_option maxRecDepth 100000
namespace Go.Sx
open Go.Proofs
theorem k1 : parseX (lexS ⟨#[50, 42, 40, 97, 32, 45, 32, 51, 41, 32, 43, 32, 98, 32, 45, 32, 97]⟩).1 = .ok ⟨[(⟨#[97]⟩, 1), (⟨#[98]⟩, 1)], 4294967290⟩ := by kernel_rfl
theorem k2 : parseX (lexS ⟨#[97, 42, 98]⟩).1 = .error 21 := by kernel_rfl
theorem k3 : parseX (lexS ⟨#[40, 97, 45, 97, 41, 42, 98]⟩).1 = .ok ⟨[], 0⟩ := by kernel_rfl
theorem k4 : parseX (lexS ⟨#[97, 43]⟩).1 = .error 20 := by kernel_rfl
theorem k5 : parseX (lexS ⟨#[114, 49]⟩).1 = .error 20 := by kernel_rfl
theorem k6 : parseX (lexS ⟨#[]⟩).1 = .error 20 := by kernel_rfl
theorem k7 : parseX (lexS ⟨#[45, 32, 45, 49]⟩).1 = .ok ⟨[], 1⟩ := by kernel_rfl
/-- A text in brackets. -/
def deepT : Nat → ByteArray
  | 0 => ⟨#[49]⟩
  | n + 1 => (⟨#[40]⟩ ++ deepT n) ++ ⟨#[41]⟩
theorem k8 : parseX (lexS (deepT 32)).1 = .ok ⟨[], 1⟩ := by kernel_rfl
theorem k9 : parseX (lexS (deepT 33)).1 = .error 21 := by kernel_rfl
def decF : Nat → Nat → List UInt8
  | 0, _ => []
  | f + 1, u => if u < 10 then [UInt8.ofNat (48 + u)] else decF f (u / 10) ++ [UInt8.ofNat (48 + u % 10)]
theorem dec_decF : ∀ (f u : Nat), u < 10 ^ (f + 1) → Lib.decDigits u = decF (f + 1) u
  | 0, u, h => by
    rw [Lib.decDigits, dif_pos (by omega)]
    unfold decF
    rw [if_pos (by omega)]
  | f + 1, u, h => by
    rw [Lib.decDigits]
    unfold decF
    by_cases h10 : u < 10
    · rw [dif_pos h10, if_pos h10]
    · rw [dif_neg h10, if_neg h10, dec_decF f (u / 10) (by rw [Nat.pow_succ] at h; omega)]
section rules
variable {L : Lp} {K : Value → Hp → Prop} {h : Hp}
theorem bytes_eq (a : ByteArray) (l : List UInt8) (h : a.data.toList = l) : (ByteArray.toList a == l) = true := by
  rw [Lib.toList_data, h]
  simp
end rules
end Go.Sx

set_option linter.unusedVariables false
set_option linter.unusedSimpArgs false
set_option maxRecDepth 100000
namespace Go.Sx.TB
open Go.Sx
open Go.Proofs
theorem Since.toExt {h h' : Hp} (s : Since h.size h h') : Ext h h' := ⟨s.1, fun i hi _ => s.2 i hi hi⟩
theorem BookTo.since {h h' : Hp} {gb b : Nat} {pl pw p : Option Addr} {es es' : List Ent} (t : BookTo h gb b pl pw es p h' es') (hgb : b ≤ gb) (hpl : ∀ i, i ∈ blkOf pl → b ≤ i) (hpw : ∀ i, i ∈ blkOf pw → b ≤ i) : Since b h h' := by
  obtain ⟨_, _, _, _, _, k, _⟩ := t
  refine Since.of k fun i hi _ => ?_
  rcases List.mem_cons.1 hi with rfl | hi
  · exact hgb
  · rcases List.mem_append.1 hi with hi | hi
    · exact hpl i hi
    · exact hpw i hi
theorem Book.empty {h : Hp} {gb b : Nat} (hb : Box h gb 51 [.slice none 0 0, .slice none 0 0, .int .i64 0, .bool false]) (hge : b ≤ gb) : Book h gb b none 0 none 0 [] :=
  ⟨⟨0, hb⟩, hge, SL.nil _ _ _ _, SL.nil _ _ _ _, by simp, by simp [blkOf], by simp [blkOf], by simp [blkOf], by simp, by simp, List.Pairwise.nil⟩
theorem few_size (s : ByteArray) (n : Nat) : (if n < s.size then s.extract 0 n else s).size ≤ n := by
  split
  · rw [ext_size]; omega
  · omega
section rules
variable {L : Lp} {K : Value → Hp → Prop} {h : Hp}
theorem addB_of {p q : Option Addr} {l m c d : Nat} {x y : Lin} {k : Option Addr → Nat → Nat → Int → T} (vx : VwT h p l x.terms) (vy : VwT h q m y.terms) (hp : ∀ i, i ∈ blkOf p → i < h.size) (hq : ∀ i, i ∈ blkOf q → i < h.size) (gx : Good x) (gy : Good y)
    (hl : x.terms.length + y.terms.length ≤ 2 ^ 40) (hk : ∀ h' p' l' c', Ext h h' → SL h' h.size 40 2 p' l' c' ((linA x y).terms.map encT) → k p' l' c' ((linA x y).num : Int) L K h') :
    T.call Try.prog 34 [.agg #[.slice p l c, .int .u32 (x.num : Int)], .agg #[.slice q m d, .int .u32 (y.num : Int)]] false [(true, [.slice 80, .int .u32])] k L K h := by
  refine call_of (add_hc vx vy hp hq hl gx.size gy.size) ?_
  rintro _ h' ⟨e, p', l', c', rfl, s⟩
  rw [linAdd_eq gx.nf gy.nf] at s ⊢
  exact ⟨((p', l', c'), ((linA x y).num : Int), ()), rfl, hk h' p' l' c' e s⟩
end rules
end Go.Sx.TB

set_option linter.unusedVariables false
set_option maxRecDepth 100000
namespace Go.Sx.TB
open Go.Sx
open Go.Proofs
/-- The book by now; of some blocks it is known that they are not the book's. -/
def KB (hB h : Hp) (S : Nat → Prop) : Prop :=
  Since hB.size hB h ∧ ∃ pl cl pw cw es, Book h hB.size hB.size pl cl pw cw es ∧ es.length ≤ 4000 ∧ (∀ i, i ∈ blkOf pl → hB.size ≤ i) ∧ (∀ i, i ∈ blkOf pw → hB.size ≤ i) ∧ ∀ i, S i → i ≠ hB.size ∧ i ∉ blkOf pl ∧ i ∉ blkOf pw ∧ ∀ e, e ∈ es → i ∉ e.blks
theorem KB.weak {hB h : Hp} {S S' : Nat → Prop} (k : KB hB h S) (hs : ∀ i, S' i → S i) : KB hB h S' := by
  obtain ⟨s, pl, cl, pw, cw, es, B, hl, h1, h2, h3⟩ := k
  exact ⟨s, pl, cl, pw, cw, es, B, hl, h1, h2, fun i hi => h3 i (hs i hi)⟩
theorem KB.ext {hB h h' : Hp} {S : Nat → Prop} (k : KB hB h S) (e : Ext h h') : KB hB h' (fun i => S i ∨ h.size ≤ i) := by
  obtain ⟨s, pl, cl, pw, cw, es, B, hl, h1, h2, h3⟩ := k
  have hb := B.lt
  refine ⟨s.trans (Since.of e (by simp)), pl, cl, pw, cw, es, B.keep e (by simp) (by simp) (by simp) (by simp), hl, h1, h2, fun i hi => ?_⟩
  rcases hi with hi | hi
  · exact h3 i hi
  · refine ⟨by have := hb.1; omega, fun k => by have := hb.2.1 i k; omega, fun k => by have := hb.2.2.1 i k; omega, fun e he k => by have := hb.2.2.2 e he i k; omega⟩
theorem keepB_of {hB h : Hp} {S : Nat → Prop} {L : Lp} {K : Value → Hp → Prop} {k : T} (kb : KB hB h S) {b : Nat} {p : Option Addr} {l c : Nat} {us : Tms} (s : SL h b 40 2 p l c (us.map encT)) (hb : hB.size ≤ b) (hl : us.length ≤ 2 ^ 40) (hS : ∀ i, i ∈ blkOf p → S i)
    (hk : ∀ h', KB hB h' (fun i => S i ∧ i ∉ blkOf p ∧ i < h.size) → h.size ≤ h'.size → (∀ i, S i → i < h.size → h'[i]? = h[i]?) → k L K h') : T.call Try.prog 14 [.pointer (some ⟨hB.size, 0, none⟩), .slice p l c] true [] k L K h := by
  obtain ⟨sB, pl, cl, pw, cw, es, B, hes, h1, h2, h3⟩ := kb
  have hsz : hB.size ≤ h.size := sB.1
  refine call_of (keep_hc B hes (s.mono hb) hl (fun x hx => h3 x (hS x hx)) hsz) ?_
  rintro _ h4 ⟨rfl, es', hes', hto⟩
  refine ⟨(), rfl, ?_⟩
  have hsin := BookTo.since (b := hB.size) hto (Nat.le_refl _) h1 h2
  obtain ⟨pl', cl', pw', cw', B', k4, hpl, hpw, he'⟩ := hto
  have hz4 := k4.size
  refine hk h4 ⟨sB.trans hsin, pl', cl', pw', cw', es', B', hes', fun i hi => ?_, fun i hi => ?_, fun i hi => ?_⟩ hz4 fun i hi hil => k4.same i hil fun hm => ?_
  · rcases hpl i hi with h | h
    · exact h1 i h
    · omega
  · rcases hpw i hi with h | h
    · exact h2 i h
    · omega
  · obtain ⟨g1, g2, g3, g4⟩ := h3 i hi.1
    refine ⟨g1, fun k => ?_, fun k => ?_, fun e he k => ?_⟩
    · rcases hpl i k with h | h
      · exact g2 h
      · omega
    · rcases hpw i k with h | h
      · exact g3 h
      · omega
    · rcases he' e he i k with h | h | ⟨f, hf, h⟩
      · exact hi.2.1 h
      · omega
      · exact g4 f hf h
  · obtain ⟨g1, g2, g3, g4⟩ := h3 i hi
    simp only [List.mem_cons, List.mem_append] at hm
    rcases hm with h | h | h
    · exact g1 h
    · exact g2 h
    · exact g3 h
theorem SL.keepS {S : Nat → Prop} {h h' : Hp} {b : Nat} {e : TypeId} {sz : Nat} {p : Option Addr} {l c : Nat} {xs : List (List Value)} (s : SL h b e sz p l c xs) (hz : h.size ≤ h'.size) (k : ∀ i, S i → i < h.size → h'[i]? = h[i]?) (hS : ∀ i, i ∈ blkOf p → S i) : SL h' b e sz p l c xs := by
  classical
  refine s.keep' (ws := (List.range h.size).filter fun i => decide (¬ S i)) ⟨hz, fun i hi hn => k i ?_ hi⟩ fun i hi hm => ?_
  · apply Classical.byContradiction
    intro hc
    exact hn (List.mem_filter.2 ⟨List.mem_range.2 hi, by simpa using hc⟩)
  · have := (List.mem_filter.1 hm).2
    have : ¬ S i := by simpa using this
    exact this (hS i hi)
theorem put_len {es : List EqM} (x : Lin) : (putS (linO es) x).terms.length ≤ x.terms.length + (es.flatMap (·.x.terms)).length := by
  have hn := putS_nf (linO es) x
  have h1 : ((putS (linO es) x).terms.map (·.1)).Nodup := List.pairwise_map.2 (hn.1.imp fun h => ltN_ne h)
  have h2 := nodup_le ((putS (linO es) x).terms.map (·.1)) ((x.terms ++ es.flatMap (·.x.terms)).map (·.1)) h1 (fun s hs => by
    obtain ⟨t, ht, rfl⟩ := List.mem_map.1 hs
    rcases mem_put ht with ⟨p, hp, e, _⟩ | ⟨p, y, u, hp, ho, hu, e⟩
    · rw [← e]; exact List.mem_map_of_mem (List.mem_append_left _ hp)
    · rw [← e]
      refine List.mem_map_of_mem (List.mem_append_right _ ?_)
      unfold linO at ho
      by_cases hw : ownE es p.1 = true
      · rw [if_pos hw] at ho
        obtain ⟨d, hd, _, hx⟩ := linE_mem ((ownE_mem es _).1 hw)
        have ho := Option.some.inj ho
        rw [← ho, hx] at hu
        exact List.mem_flatMap.2 ⟨d, hd, hu⟩
      · rw [if_neg hw] at ho; cases ho)
  rw [List.length_map, List.length_map, List.length_append] at h2
  exact h2
theorem equKept_hc {h : Hp} {p : Option Addr} {l c : Nat} {es : List EqM} {N : Nat} (hi : EquIn h p l c es N) {q : Option Addr} {m d : Nat} {x : Lin} {M : Nat} (u : LinIn h q m d x M) (hN : N + M ≤ 2 ^ 20) :
    HC Try.prog 4 #[.slice p l c, linV q m d x] h fun w h' => w = .bool true ∧ Ext h h' := by
  refine hcr_of (args := [.slice p l c, linV q m d x]) mixed Try.func4 (by kernel_rfl) (t_spandrellaw11_EquKept_eq p l c q m d x.num) ?_
  unfold t_spandrellaw11_EquKept
  have hm := hi.many
  have hll := hi.vw.len
  have hxm := u.many
  have htl : ∀ e, e ∈ es → e.x.terms.length ≤ 2 ^ 20 := fun e he => by have := flatMap_mem_length (fun e : EqM => e.x.terms) he; omega
  refine newB ?_
  intro h1 b1 e1 z1
  refine call_of (right_hc (c := c) (hi.vw.keep e1) hi.names (fun e he => ⟨by have := htl e he; omega, fun t ht => (hi.terms e he t ht).1⟩)) ?_
  rintro _ h2 ⟨⟨b, rfl, hb⟩, e2⟩
  refine ⟨(b, ()), rfl, ?_⟩
  dsimp only [flat, unc, unc1, List.nil_append, List.cons_append]
  have e02 := e1.trans e2
  refine cond_mk (fun g1 => knownT fun h' e => ⟨rfl, e02.trans e⟩) (fun g1 => ?_)
  have hr := hb (by simpa using g1)
  have eo := hi.sm (by omega) hr
  have hl60 := hr.len
  have b2 := b1.keep e2 (by simp)
  refine loads_box b2 ((q, m, d), (x.num : Int), ()) rfl ?_
  dsimp only [flat, unc, unc1, List.nil_append, List.cons_append]
  refine call_boolx (right50_hc (u.vw.keep e02 (by simp)) (by omega) (fun t ht => (u.names t ht).1)) ?_
  intro h3 e3
  have e03 := e02.trans e3
  refine cond_mk (fun g2 => knownT fun h' e => ⟨rfl, e03.trans e⟩) (fun g2 => ?_)
  have b3 := b2.keep e3 (by simp)
  refine call_of (copyUnit_hc (c := c) (hi.vw.keep e03) (by omega) htl) ?_
  rintro _ hB ⟨⟨p1, l1, c1, p2, l2, c2, p15, l16, c17, p4, l4, c4, ws, rfl, vws, _, hws⟩, e4⟩
  refine ⟨((p1, l1, c1), (p2, l2, c2), (p15, l16, c17), (p4, l4, c4), ()), rfl, ?_⟩
  dsimp only [flat, unc, unc1, List.nil_append, List.cons_append]
  have e0B := e03.trans e4
  have bB := b3.keep e4 (by simp)
  refine newB ?_
  intro h5 b5 e5 z5
  have kb5 : KB hB h5 (fun _ => False) := ⟨Since.of e5 (by simp), none, 0, none, 0, [], Book.empty b5 (Nat.le_refl _), by simp, by simp [blkOf], by simp [blkOf], fun i hi => hi.elim⟩
  have views : ∀ {h' : Hp} {S : Nat → Prop}, KB hB h' S → Ext hB h' := fun kb => kb.1.toExt
  have e0' : ∀ {h' : Hp} {S : Nat → Prop}, KB hB h' S → Ext h h' := fun kb => e0B.trans (views kb)
  have hrm := hi.vw
  refine loop_of (cs := iCs) (fun y n h' => ∃ i : Nat, y.1 = (i : Int) ∧ i ≤ 2 ∧ n = 2 - i ∧ KB hB h' (fun _ => False)) ((0 : Int), ()) 2 rfl ⟨0, rfl, by omega, by omega, kb5⟩ ?_
  rintro ⟨n22, ⟨⟩⟩ n h6 ⟨i, hi0, hile, rfl, kb6⟩
  simp only at hi0
  subst hi0
  dsimp only [flat, unc, unc1, List.nil_append, List.cons_append]
  have e06 := e0' kb6
  have hwi : i < 2 → IntKind.wrap .i64 ((i : Int) + 1) = ((i + 1 : Nat) : Int) := fun _ => by rw [wrap_i64 (by omega) (by omega)]; omega
  refine cond_mk (fun g3 => ?_) (fun g3 => ?_)
  · have g3 := of_decide_eq_true g3
    -- behind the solved ones
    have fin : ∀ (hh : Hp) (L : Lp) (I : HVs (flat iCs) → Nat → Hp → Prop), (∀ (y : HVs (flat iCs)) nn h', (∃ i' : Nat, y.1 = (i' : Int) ∧ i' ≤ 2 ∧ nn = 2 - i' ∧ KB hB h' (fun _ => False)) → I y nn h') → L[0]? = some (Jl I (2 - i)) → KB hB hh (fun _ => False) →
        (T.loads (bx h.size) [.slice 40, .int .u32] fun (p29 : Option Addr) (l30 : Nat) (l31 : Nat) (n32 : Int) =>
          T.call Try.prog 15 [.agg #[.slice p29 l30 l31, .int .u32 n32], .slice p l c] false [(true, [.slice 40, .int .u32])] fun (p33 : Option Addr) (l34 : Nat) (l35 : Nat) (n36 : Int) =>
          T.call Try.prog 14 [.pointer (some (bx hB.size)), .slice p33 l34 l35] true [] <| T.loads (bx h.size) [.slice 40, .int .u32] fun (p37 : Option Addr) (l38 : Nat) (l39 : Nat) (n40 : Int) =>
          T.call Try.prog 15 [.agg #[.slice p37 l38 l39, .int .u32 n40], .slice none 0 0] false [(true, [.slice 40, .int .u32])] fun (p41 : Option Addr) (l42 : Nat) (l43 : Nat) (n44 : Int) =>
          T.call Try.prog 14 [.pointer (some (bx hB.size)), .slice p41 l42 l43] true [] <| T.again 0 [.int .i64 (IntKind.wrap .i64 ((i : Int) + (1 : Int)))]) L (fun w h' => w = .bool true ∧ Ext h h') hh := by
      intro hh L I hI hL kbh
      have hxs : ∀ t, t ∈ x.terms → t.1.size ≤ maxLen := fun t ht => (u.names t ht).1
      have hlA : ∀ (fs : List EqM), (fs.flatMap (·.x.terms)).length ≤ 2 ^ 30 → (linAdd (putS (linO fs) x) linZ).terms.length ≤ 2 ^ 40 := by
        intro fs hfs
        rw [linAdd_zero (putS_nf _ _) (putS_num u.num)]
        have := put_len (es := fs) x
        omega
      have bh := bB.keep (views kbh) (by simp)
      refine loads_box bh ((q, m, d), (x.num : Int), ()) rfl ?_
      dsimp only [flat, unc, unc1, List.nil_append, List.cons_append]
      refine call_of (put_hc (x := x) (c := d) (d := c) (u.vw.keep (e0' kbh) (by simp)) (hi.vw.keep (e0' kbh)) eo.toEqsOk htl (by omega) (by omega) (by omega) hxs) ?_
      rintro _ ha ⟨⟨p33, l34, c35, rfl, sa⟩, ea⟩
      refine ⟨((p33, l34, c35), ((linAdd (putS (linO es) x) linZ).num : Int), ()), rfl, ?_⟩
      dsimp only [flat, unc, unc1, List.nil_append, List.cons_append]
      have hsz := kbh.1.1
      refine keepB_of (kbh.ext ea) sa hsz (hlA es (by omega)) (fun i hi => .inr (sa.blk hi).1) ?_
      intro hb kbb _ _
      have bh2 := bB.keep (views kbb) (by simp)
      refine loads_box bh2 ((q, m, d), (x.num : Int), ()) rfl ?_
      dsimp only [flat, unc, unc1, List.nil_append, List.cons_append]
      refine call_of (put_hc (x := x) (c := d) (d := 0) (u.vw.keep (e0' kbb) (by simp)) (nilE hb) nilOk.toEqsOk (by simp) (by simp) (by simp) (by omega) hxs) ?_
      rintro _ hc ⟨⟨p41, l42, c43, rfl, sc⟩, ec⟩
      refine ⟨((p41, l42, c43), ((linAdd (putS (linO []) x) linZ).num : Int), ()), rfl, ?_⟩
      dsimp only [flat, unc, unc1, List.nil_append, List.cons_append]
      have hsz2 := kbb.1.1
      refine keepB_of (kbb.ext ec) sc hsz2 (hlA [] (by simp)) (fun i hi => .inr (sc.blk hi).1) ?_
      intro hd kbd _ _
      exact again_mk (cs := iCs) (((i + 1 : Nat) : Int), ()) (2 - (i + 1)) hL (by omega) (by rw [hwi (by omega)]; rfl) (hI _ _ _ ⟨i + 1, rfl, by omega, rfl, kbd.weak fun _ h => h.elim⟩)
    refine call_of (solveAll_hc (c := c) (hi.vw.keep e06) eo (fun i hb => by have := hi.blk i hb; have := e06.size; omega) (by omega)) ?_
    rintro _ h7 ⟨hs7, e7⟩
    have kb7 := kb6.ext e7
    have hszB := kb6.1.1
    rcases hs7 with ⟨j, _, _, _, rfl⟩ | ⟨hc, p23, l24, l25, ms, rfl, own, hms⟩
    · refine ⟨((none, 0, 0), (j : Int), (24 : Int), ()), rfl, ?_⟩
      dsimp only [flat, unc, unc1, List.nil_append, List.cons_append]
      refine loop_of (cs := iCs) (fun y n h' => y.1 = (0 : Int) ∧ h' = h7) ((0 : Int), ()) 0 rfl ⟨rfl, rfl⟩ ?_
      rintro ⟨n28, ⟨⟩⟩ n h8 ⟨hx, rfl⟩
      simp only at hx
      subst hx
      dsimp only [flat, unc, unc1, List.nil_append, List.cons_append]
      refine cond_f rfl ?_
      exact fin h8 _ _ (fun y nn h' hy => hy) rfl (kb7.weak fun _ h => h.elim)
    · refine ⟨((p23, l24, l25), (0 : Int), (0 : Int), ()), rfl, ?_⟩
      dsimp only [flat, unc, unc1, List.nil_append, List.cons_append]
      have hmsl : ms.length = es.length := by have := congrArg List.length hms; simpa using this
      have hl24 : l24 = ms.length := by rw [own.out.1, List.length_map]
      have hmtl : ∀ m, m ∈ ms → m.x.terms.length ≤ 2 ^ 20 := by
        intro mm hm
        have h1 : (mm.name, mm.x) ∈ ms.map (fun m => (m.name, m.x)) := List.mem_map_of_mem (f := fun m : EqM => (m.name, m.x)) hm
        rw [hms] at h1
        obtain ⟨e, he, e1⟩ := List.mem_map.1 h1
        simp only [Prod.mk.injEq] at e1
        rw [← e1.2]
        exact eo.sol_len hc (List.mem_map_of_mem he)
      refine loop_of (cs := iCs) (fun y n h' => ∃ k : Nat, y.1 = (k : Int) ∧ k ≤ ms.length ∧ n = ms.length - k ∧ KB hB h' (fun i => i ∈ blkOf p23 ∨ ∃ j, ∃ hj : j < ms.length, k ≤ j ∧ i ∈ blkOf ms[j].p) ∧ SL h' h6.size 38 3 p23 l24 l25 (ms.map eqV) ∧
          ∀ j, (hj : j < ms.length) → k ≤ j → SL h' h6.size 40 2 ms[j].p ms[j].l ms[j].c (ms[j].x.terms.map encT)) ((0 : Int), ()) ms.length rfl
        ⟨0, rfl, by omega, by omega, kb7.weak fun i hi => .inr (by
          rcases hi with h | ⟨j, hj, _, h⟩
          · exact (own.out.blk h).1
          · exact ((own.inn _ (List.getElem_mem hj)).blk h).1), own.out, fun j hj _ => own.inn _ (List.getElem_mem hj)⟩ ?_
      rintro ⟨n28, ⟨⟩⟩ n h8 ⟨k, hk0, hkle, rfl, kb8, so8, si8⟩
      simp only at hk0
      subst hk0
      dsimp only [flat, unc, unc1, List.nil_append, List.cons_append]
      refine cond_mk (fun g4 => ?_) (fun g4 => ?_)
      · have g4 := of_decide_eq_true g4
        have hklt : k < ms.length := by omega
        refine need_of ⟨by omega, by omega⟩ ?_
        obtain ⟨a, ha, hcc⟩ := so8.cells (i := k) (by simpa using hklt)
        rw [List.getElem_map] at hcc
        refine osome_mk ha ?_
        rw [show Int.toNat (k : Int) = k by omega]
        refine loads_of ((ms[k].p, ms[k].l, ms[k].c), ()) ⟨by rw [add_zero']; exact hcc.2.1, trivial⟩ ?_
        dsimp only [flat, unc, unc1, List.nil_append, List.cons_append]
        have sk := si8 k hklt (Nat.le_refl _)
        refine keepB_of kb8 sk hszB (by have := hmtl _ (List.getElem_mem hklt); omega) (fun i hi => .inr ⟨k, hklt, Nat.le_refl _, hi⟩) ?_
        intro h9 kb9 hz9 same9
        have hw : IntKind.wrap .i64 ((k : Int) + 1) = ((k + 1 : Nat) : Int) := by rw [wrap_i64 (by omega) (by omega)]; omega
        refine again_mk (cs := iCs) (((k + 1 : Nat) : Int), ()) (ms.length - (k + 1)) rfl (by omega) (by rw [hw]; rfl) ⟨k + 1, rfl, by omega, rfl, kb9.weak fun i hi => ?_, SL.keepS so8 hz9 same9 (fun i hi => .inl hi), fun j hj hjk => SL.keepS (si8 j hj (by omega)) hz9 same9 (fun i hi => .inr ⟨j, hj, by omega, hi⟩)⟩
        rcases hi with h | ⟨j, hj, hjk, h⟩
        · exact ⟨.inl h, fun hk => own.dj _ (List.getElem_mem hklt) i hk h, (so8.blk h).2⟩
        · refine ⟨.inr ⟨j, hj, by omega, h⟩, fun hk => ?_, ((si8 j hj (by omega)).blk h).2⟩
          have := List.pairwise_iff_getElem.1 own.ap k j hklt hj (by omega) i hk i h
          omega
      · exact fin h8 _ _ (fun y nn h' hy => hy) rfl (kb8.weak fun _ h => h.elim)
  · obtain ⟨sB, pl, cl, pw, cw, ents, B, hes, h1', h2', h3'⟩ := kb6
    refine call_of (apart_hc B hes sB.1) ?_
    rintro _ h7 ⟨rfl, s7⟩
    refine ⟨(true, ()), rfl, ?_⟩
    dsimp only [flat, unc, unc1, List.nil_append, List.cons_append]
    have eB7 : Ext hB h7 := (sB.trans s7).toExt
    have e07 := e0B.trans eB7
    refine cond_t rfl ?_
    refine call_boolx (sameEqus_hc (c := c) (d := c17) (hi.vw.keep e07) (vws.keep eB7) hws.symm (by omega) (fun e he => by have := htl e he; omega)) ?_
    intro h8 e8
    refine cond_t rfl ?_
    exact knownT fun h' e => ⟨rfl, (e07.trans e8).trans e⟩
end Go.Sx.TB
