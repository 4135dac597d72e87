/- Contracts over heaps, and plain laws, for the functions that the laws of chapter 11 call, part 7: The law EquValues over heaps: it answers true. The law EquTurned over heaps: it answers true. Condition: as each statement says. -/
import Derived.Test.YtpbjlnlekobodaaP6
import Derived.Test.YtpbjlnlekobodaaEquX
set_option linter.unusedVariables false
set_option linter.unusedSimpArgs false
set_option linter.deprecated false
set_option maxRecDepth 100000
namespace Go.Sx
open Go.Proofs
theorem VwE.at {h : Hp} {p : Option Addr} {l : Nat} {es : List EqM} (v : VwE h p l es) {i : Nat} (hi : i < es.length) : ∃ a, p = some a ∧ ∀ h', Ext h h' → cellsAt h' (a.add (i * 3)) 0 (eqV es[i]) ∧ VwT h' es[i].p es[i].l es[i].x.terms := by
  obtain ⟨a, ha, hc⟩ := v.cells i hi
  exact ⟨a, ha, fun h' e => ⟨cellsAt_keep e (by simp) _ _ hc, (v.inn _ (List.getElem_mem hi)).keep e (by simp)⟩⟩
theorem EquIn.sm {h : Hp} {p : Option Addr} {l c : Nat} {es : List EqM} {N : Nat} (hi : EquIn h p l c es N) (hN : N ≤ 2 ^ 20) (hr : RightE es) : EqsSm es := by
  have hm := hi.many
  refine ⟨⟨hr.nodup, by have := hr.len; omega, hi.names, fun e he => ?_, fun e he t ht => (hi.terms e he t ht).1⟩, by omega⟩
  have := flatMap_mem_length (fun e : EqM => e.x.terms) he
  omega
/-! The values' map, as a function. -/
def MapA (h : Hp) (g : Nat) (f : ByteArray → Option Nat) : Prop := ∃ D, MapB h g (vm D) ∧ ∀ s, getO D s = f s
theorem getO_put (D : Tms) (t : ByteArray) (v : Nat) (s : ByteArray) : getO (putN D t v) s = if s = t then some v else getO D s := by
  have e : putN D t v = pE D t v := by
    unfold putN pE gE
    rw [Option.isSome_map]
  show gE (putN D t v) s = _
  rw [e, gE_pE]
  rfl
theorem MapA.keep {ws : List Nat} {h h' : Hp} {g : Nat} {f : ByteArray → Option Nat} (m : MapA h g f) (k : Ch ws h h') (hw : g ∉ ws) : MapA h' g f := by
  obtain ⟨D, m, r⟩ := m
  exact ⟨D, m.keep k hw, r⟩
section
variable {L : Lp} {K : Value → Hp → Prop} {h : Hp}
theorem putA {g : Nat} {f : ByteArray → Option Nat} (m : MapA h g f) {s : ByteArray} (hs : s.size ≤ maxLen) (n : Nat) {k : T} (hk : ∀ h', MapA h' g (fset f s n) → Ch [g] h h' → h'.size = h.size → k L K h') :
    T.semU Try.prog (Instr.mapUpdate 31 (.map (some g)) (.string s) (.int .u32 (n : Int))) k L K h := by
  obtain ⟨D, m, r⟩ := m
  refine put_of m hs rfl ?_
  intro h' m' k' z'
  exact hk h' ⟨_, m', fun t => by rw [getO_put, r]; rfl⟩ k' z'
theorem lookA {g : Nat} {f : ByteArray → Option Nat} (m : MapA h g f) (s : ByteArray) {k : Int → T} (hk : k (((f s).getD 0 : Nat) : Int) L K h) : T.sem Try.prog (Instr.lookup 31 (.map (some g)) (.string s) false) false [(false, [.int .u32])] k L K h := by
  obtain ⟨D, m, r⟩ := m
  refine look_of m s ?_
  have : getN D s = (f s).getD 0 := by rw [← r s]; rfl
  rw [this]
  exact hk
/-- A value that is there. -/
theorem valueA {g : Nat} {f : ByteArray → Option Nat} (m : MapA h g f) {p : Option Addr} {l c : Nat} {x : Lin} (v : VwT h p l x.terms) (hl : x.terms.length ≤ 2 ^ 40) (hn : x.num < 4294967296) (ha : ∀ t, t ∈ x.terms → (f t.1).isSome = true) {k : Int → Bool → T}
    (hk : ∀ h', Ext h h' → k ((valL (fun s => (f s).getD 0) x : Nat) : Int) true L K h') : T.call Try.prog 11 [linV p l c x, .map (some g)] true [(false, [.int .u32]), (false, [.bool])] k L K h := by
  obtain ⟨D, m, r⟩ := m
  have hD : getO D = f := funext r
  refine call_of (value_hc (r := some g) (D := D) v m hl) ?_
  rintro _ h' ⟨rfl, e⟩
  refine ⟨(((valL (fun s => (f s).getD 0) x : Nat) : Int), true, ()), ?_, hk h' e⟩
  rw [hD, valN_all x.terms x.num hn ha]
  rfl
end
/-- A name behind a sign. -/
abbrev eqN (s : ByteArray) : ByteArray := (⟨#[61]⟩ : ByteArray) ++ s
theorem eqN_legal {s t : ByteArray} (h : legalL s.data.toList = true) : s ≠ eqN t := by
  intro e
  unfold legalL at h
  simp only [Bool.and_eq_true] at h
  have h1 := h.1.1.2
  rw [e] at h1
  have : (eqN t).data.toList = 61 :: t.data.toList := by simp
  rw [this] at h1
  revert h1
  simp only [List.getD_cons_zero]
  decide
theorem eqN_inj {s t : ByteArray} (h : eqN s = eqN t) : s = t := by
  have := congrArg (fun b : ByteArray => b.data.toList) h
  simp only [eqN, ByteArray.data_append, Array.toList_append] at this
  exact baExt (List.append_cancel_left this)
theorem eqN_size (s : ByteArray) : (eqN s).size = 1 + s.size := by simp [ByteArray.size_append]; rfl
theorem valS_congr {f g : ByteArray → Nat} : ∀ {l : Tms}, (∀ t, t ∈ l → f t.1 = g t.1) → valS f l = valS g l
  | [], _ => rfl
  | t :: l, h => by rw [valS_cons, valS_cons, h t (by simp), valS_congr fun u hu => h u (List.mem_cons_of_mem _ hu)]
theorem valL_congr {f g : ByteArray → Nat} {x : Lin} (h : ∀ t, t ∈ x.terms → f t.1 = g t.1) : valL f x = valL g x := by unfold valL; rw [valS_congr h]
/-- Numbers that a name's solution gives are those of its expression. -/
theorem sol_val {es : List EqM} (hc : ∀ v, ¬ OnC (edgE es) v) {v : ByteArray} (hv : v ∈ namesE es) {f g : ByteArray → Nat} (ho : ∀ s, s ∈ namesE es → g s = valL f (solE es s)) (hn : ∀ t, t ∈ (linE es v).terms → t.1 ∉ namesE es → g t.1 = f t.1) : valL f (solE es v) = valL g (linE es v) := by
  have hs : solE es v = putS (solO (ownE es) (linE es) (namesE es)) (linE es v) := sol_eq (ownE_mem es) hc hv
  rw [hs, valL_put (g := fun s => match solO (ownE es) (linE es) (namesE es) s with | none => f s | some y => valL f y) (fun s => rfl)]
  refine (valL_congr fun t ht => ?_).symm
  show g t.1 = match solO (ownE es) (linE es) (namesE es) t.1 with | none => f t.1 | some y => valL f y
  unfold solO
  by_cases hw : ownE es t.1 = true
  · rw [if_pos hw]
    exact ho _ ((ownE_mem es _).1 hw)
  · rw [if_neg hw]
    exact hn t ht fun h => hw ((ownE_mem es _).2 h)
theorem knownT {L : Lp} {K : Value → Hp → Prop} {h : Hp} (hk : ∀ h', Ext h h' → K (.bool true) h') : T.call Try.prog 8 [] false [(false, [.bool])] (fun b => T.ret (.bool b)) L K h :=
  call_boolx (known_hc h) fun h' e => hk h' e
abbrev iCs : List Comp := [(false, [.int .i64])]
theorem equValues_hc {h : Hp} {p : Option Addr} {l c : Nat} {es : List EqM} {N : Nat} (hi : EquIn h p l c es N) (hN : N ≤ 2 ^ 20) {q : Option Addr} {m d : Nat} {us : List Nat} {M : Nat} (hu : NumIn h q m us M) :
    HC Try.prog 3 #[.slice p l c, .slice q m d] h fun w h' => w = .bool true ∧ Ext h h' := by
  refine hcr_of (args := [.slice p l c, .slice q m d]) mixed Try.func3 (by kernel_rfl) (t_spandrellaw11_EquValues_eq p l c q m d) ?_
  unfold t_spandrellaw11_EquValues
  have hm := hi.many
  refine call_of (right_hc (c := c) hi.vw hi.names (fun e he => ⟨by have := flatMap_mem_length (fun e : EqM => e.x.terms) he; omega, fun t ht => (hi.terms e he t ht).1⟩)) ?_
  rintro _ h1 ⟨⟨b, rfl, hb⟩, e1⟩
  refine ⟨(b, ()), rfl, ?_⟩
  dsimp only [flat, unc, unc1, List.nil_append, List.cons_append]
  refine cond_mk (fun g1 => knownT fun h' e => ⟨rfl, e1.trans e⟩) (fun g1 => ?_)
  have hr := hb (by simpa using g1)
  have eo := hi.sm hN hr
  have hl60 := hr.len
  refine cond_mk (fun g2 => knownT fun h' e => ⟨rfl, e1.trans e⟩) (fun g2 => ?_)
  have hm0 : m ≠ 0 := fun e => by rw [e] at g2; simp at g2
  refine call_of (solveAll_hc (c := c) (hi.vw.keep e1) eo (fun i hb => by have := hi.blk i hb; have := e1.size; omega) (by omega)) ?_
  rintro _ h2 ⟨hs, e2⟩
  have e02 := e1.trans e2
  have hcyc : ∀ {h' : Hp}, Ext h h' → _ := fun {h'} e => cycle_hc (c := c) (hi.vw.keep e) eo.toEqsOk (fun i hb => by have := hi.blk i hb; have := e.size; omega)
  rcases hs with ⟨i, hil, ho, _, rfl⟩ | ⟨hc, p3, l4, l5, ms, rfl, own, hms⟩
  · refine ⟨((none, 0, 0), (i : Int), (24 : Int), ()), rfl, ?_⟩
    dsimp only [flat, unc, unc1, List.nil_append, List.cons_append]
    refine cond_t rfl ?_
    refine call_of (hcyc e02) ?_
    rintro _ h3 ⟨⟨p8, l9, l10, ks, rfl, sk, hks, _⟩, e3⟩
    refine ⟨((p8, l9, l10), ()), rfl, ?_⟩
    dsimp only [flat, unc, unc1, List.nil_append, List.cons_append]
    have hl9 : l9 = ks.length := by rw [sk.1, List.length_map]
    have hpos := List.length_pos_of_mem ((hks _).2 ho)
    refine cond_t (decide_eq_true (by omega)) (cond_t rfl ?_)
    exact knownT fun h' e => ⟨rfl, (e02.trans e3).trans e⟩
  · refine ⟨((p3, l4, l5), (0 : Int), (0 : Int), ()), rfl, ?_⟩
    dsimp only [flat, unc, unc1, List.nil_append, List.cons_append]
    refine cond_f rfl ?_
    refine call_of (hcyc e02) ?_
    rintro _ h3 ⟨⟨p8, l9, l10, ks, rfl, sk, hks, _⟩, e3⟩
    refine ⟨((p8, l9, l10), ()), rfl, ?_⟩
    dsimp only [flat, unc, unc1, List.nil_append, List.cons_append]
    have hl9 : l9 = 0 := by
      rw [sk.1, List.length_map]
      cases ks with
      | nil => rfl
      | cons s ks => exact (hc s ((hks s).1 (by simp))).elim
    subst hl9
    refine cond_f rfl ?_
    have hmsl : ms.length = es.length := by have := congrArg List.length hms; simpa using this
    have hl4 : l4 = es.length := by rw [own.out.1, List.length_map, hmsl]
    have hl := hi.vw.len
    refine cond_f (by have : (l4 : Int) = (l : Int) := by omega
                      simp [this]) ?_
    have e03 := e02.trans e3
    have own3 := own.keep e3 (by simp)
    have vm3 := vwE_own own3
    have hz3 := e03.size
    have hmk : ∀ i, (hi : i < es.length) → (hj : i < ms.length) → ms[i].name = es[i].name ∧ ms[i].x = solE es es[i].name := by
      intro i h1 h2
      have h3 : (ms.map (fun m => (m.name, m.x)))[i]? = (es.map (fun e => (e.name, solE es e.name)))[i]? := by rw [hms]
      rw [List.getElem?_map, List.getElem?_map, List.getElem?_eq_getElem h1, List.getElem?_eq_getElem h2] at h3
      have h3 := Option.some.inj h3
      exact ⟨congrArg (·.1) h3, congrArg (·.2) h3⟩
    have hnm : ∀ i, (hi : i < es.length) → es[i].name ∈ namesE es := fun i h => List.mem_map_of_mem (List.getElem_mem h)
    have hlg : ∀ s, s ∈ namesE es → legalL s.data.toList = true := by
      intro s hs
      obtain ⟨e, he, rfl⟩ := List.mem_map.1 hs
      exact hr.legal e he
    have htl : ∀ e, e ∈ es → ∀ t, t ∈ e.x.terms → legalL t.1.data.toList = true := fun e he t ht => ((rtR_ge (hr.rt e he)).1 t ht).1
    refine makeMap_of _ ?_
    intro h4 m4 e4 z4
    refine ⟨(some h3.size, ()), rfl, ?_⟩
    dsimp only [flat, unc, unc1, List.nil_append, List.cons_append]
    have a4 : MapA h4 h3.size (fun _ => none) := ⟨[], m4, fun s => rfl⟩
    refine makeF (en := eB) ?_
    intro h5 m5 e5 z5
    have a5 := a4.keep e5 (by simp)
    have e35 := e4.trans e5
    generalize hgA : h3.size = gA at *
    generalize hgO : h4.size = gO at *
    have hgo : gA < gO := by omega
    refine loop_of (cs := iCs) (fun x w h' => ∃ (i : Nat) (f : ByteArray → Option Nat) (o : ByteArray → Option Bool) (n : Nat), x.1 = (i : Int) ∧ i ≤ es.length ∧ w = es.length - i ∧ Ext h3 h' ∧ MapA h' gA f ∧ MapF eB h' gO o n ∧
        (∀ s, (o s).getD false = true → s ∈ namesE es) ∧ (∀ e, e ∈ es.take i → ∀ t, t ∈ e.x.terms → (f t.1).isSome = true))
      ((0 : Int), ()) es.length rfl ⟨0, _, _, 0, rfl, by omega, by omega, e35, a5, m5, (by simp), (by simp)⟩ ?_
    rintro ⟨n13, ⟨⟩⟩ w h6 ⟨i, f, o, n, hi0, hile, rfl, e6, a6, m6, ho6, hf6⟩
    simp only at hi0
    subst hi0
    dsimp only [flat, unc, unc1, List.nil_append, List.cons_append]
    have e06 := e03.trans e6
    have hz6 := e6.size
    refine cond_mk (fun g3 => ?_) (fun g3 => ?_)
    · have g3 := of_decide_eq_true g3
      have hilt : i < es.length := by omega
      obtain ⟨a, ha, hat⟩ := hi.vw.at hilt
      have htk : es.take (i + 1) = es.take i ++ [es[i]] := List.take_succ_eq_append_getElem hilt
      have hnme := hnm i hilt
      have hsz := hi.names es[i] (List.getElem_mem hilt)
      have htsz := hi.terms es[i] (List.getElem_mem hilt)
      have htlen : es[i].x.terms.length ≤ 2 ^ 20 := by have := flatMap_mem_length (fun e : EqM => e.x.terms) (List.getElem_mem hilt); omega
      generalize es[i] = e at hat htk hnme hsz htsz htlen
      refine need_of ⟨by omega, by omega⟩ (osome_mk ha ?_)
      rw [show Int.toNat (i : Int) = i by omega]
      refine loads_of (e.name, ()) ⟨(hat h6 e06).1.1, trivial⟩ ?_
      dsimp only [flat, unc, unc1, List.nil_append, List.cons_append]
      refine putB m6 hsz ?_
      intro h7 m7 k7 z7
      have hgoz : gO < h6.size := m6.lt
      have e37 : Ext h3 h7 := Ch.trans e6 k7 (fun j hj hl => by simp at hj; omega)
      have a7 := a6.keep k7 (by simp; omega)
      refine loop_of (cs := iCs) (fun x w h' => ∃ (k : Nat) (f' : ByteArray → Option Nat), x.1 = (k : Int) ∧ k ≤ e.x.terms.length ∧ w = e.x.terms.length - k ∧ Ch [gA] h7 h' ∧ MapA h' gA f' ∧ (∀ s, (f s).isSome = true → (f' s).isSome = true) ∧ (∀ t, t ∈ e.x.terms.take k → (f' t.1).isSome = true))
        ((0 : Int), ()) e.x.terms.length rfl ⟨0, f, rfl, by omega, by omega, Ch.refl _ _, a7, fun s h => h, by simp⟩ ?_
      rintro ⟨n16, ⟨⟩⟩ w h8 ⟨k, f', hk0, hkle, rfl, k8, a8, hsub, hf8⟩
      simp only at hk0
      subst hk0
      dsimp only [flat, unc, unc1, List.nil_append, List.cons_append]
      have e38 : Ext h3 h8 := Ch.trans e37 k8 (fun j hj hl => by simp at hj; omega)
      have e08 := e03.trans e38
      refine need_of ⟨by omega, by omega⟩ (osome_mk ha ?_)
      have hcc := (hat h8 e08).1
      have hvt := (hat h8 e08).2
      refine loads_of ((e.p, e.l, e.c), ()) ⟨by rw [add_zero']; exact hcc.2.1, trivial⟩ ?_
      dsimp only [flat, unc, unc1, List.nil_append, List.cons_append]
      have hel := hvt.len
      refine cond_mk (fun g4 => ?_) (fun g4 => ?_)
      · have g4 := of_decide_eq_true g4
        have hklt : k < e.x.terms.length := by omega
        refine need_of ⟨by omega, by omega⟩ (osome_mk ha ?_)
        refine loads_of ((e.p, e.l, e.c), ()) ⟨by rw [add_zero']; exact hcc.2.1, trivial⟩ ?_
        dsimp only [flat, unc, unc1, List.nil_append, List.cons_append]
        refine need_of ⟨by omega, by omega⟩ ?_
        obtain ⟨a2, ha2, hc2⟩ := hvt.cells k hklt
        refine osome_mk ha2 ?_
        rw [show Int.toNat (k : Int) = k by omega]
        have htkk : e.x.terms.take (k + 1) = e.x.terms.take k ++ [e.x.terms[k]] := List.take_succ_eq_append_getElem hklt
        have htz := (htsz e.x.terms[k] (List.getElem_mem hklt)).1
        generalize e.x.terms[k] = t at hc2 htkk htz
        refine loads_of (t.1, ()) ⟨hc2.1, trivial⟩ ?_
        dsimp only [flat, unc, unc1, List.nil_append, List.cons_append]
        have hul := hu.len
        have hix : Int.tmod (IntKind.wrap .i64 ((i : Int) + (k : Int))) (m : Int) = (((i + k) % m : Nat) : Int) := by
          rw [wrap_i64 (by omega) (by omega), show ((i : Int) + (k : Int)) = ((i + k : Nat) : Int) by omega]
          rfl
        rw [hix]
        have hlt := Nat.mod_lt (i + k) (Nat.pos_of_ne_zero hm0)
        refine need_of (by omega) (need_of ⟨by omega, by omega⟩ ?_)
        obtain ⟨a3, ha3, hc3⟩ := hu.cells ((i + k) % m) (by omega)
        refine osome_mk ha3 ?_
        rw [show Int.toNat (((i + k) % m : Nat) : Int) = (i + k) % m by omega]
        refine loads_of ((us[(i + k) % m] : Int), ()) (cellsAt_keep e08 (by simp) _ _ hc3) ?_
        dsimp only [flat, unc, unc1, List.nil_append, List.cons_append]
        refine putA a8 htz us[(i + k) % m] ?_
        intro h9 a9 k9 z9
        have hwk : IntKind.wrap .i64 ((k : Int) + 1) = ((k + 1 : Nat) : Int) := by rw [wrap_i64 (by omega) (by omega)]; omega
        refine again_mk (cs := iCs) (((k + 1 : Nat) : Int), ()) (e.x.terms.length - (k + 1)) rfl (by omega) (by rw [hwk]; rfl) ⟨k + 1, _, rfl, by omega, rfl, Ch.trans k8 k9 (fun j hj _ => hj), a9, fun s hs => ?_, fun u hu => ?_⟩
        · unfold fset
          split
          · rfl
          · exact hsub s hs
        · unfold fset
          split
          · rfl
          · rename_i hne
            rw [htkk] at hu
            rcases List.mem_append.1 hu with h | h
            · exact hf8 u h
            · exact (hne (by rw [List.mem_singleton.1 h])).elim
      · have g4 := of_decide_eq_false g4
        have htk2 : e.x.terms.take k = e.x.terms := List.take_of_length_le (by omega)
        rw [htk2] at hf8
        have hwi : IntKind.wrap .i64 ((i : Int) + 1) = ((i + 1 : Nat) : Int) := by rw [wrap_i64 (by omega) (by omega)]; omega
        refine again_mk (cs := iCs) (((i + 1 : Nat) : Int), ()) (es.length - (i + 1)) rfl (by omega) (by rw [hwi]; rfl) ⟨i + 1, f', _, _, rfl, by omega, rfl, e38, a8, m7.keep k8 (by simp; omega), fun s hs => ?_, fun u hu t ht => ?_⟩
        · unfold fset at hs
          split at hs
          · rename_i he; rw [he]; exact hnme
          · exact ho6 s hs
        · rw [htk] at hu
          rcases List.mem_append.1 hu with h | h
          · exact hsub _ (hf6 u h t ht)
          · rw [List.mem_singleton.1 h] at ht
            exact hf8 t ht
    · have g3 := of_decide_eq_false g3
      have htke : es.take i = es := List.take_of_length_le (by omega)
      rw [htke] at hf6
      clear g3 hile htke
      have hfm : ∀ s, s ∈ namesE es → ∀ t, t ∈ (solE es s).terms → (f t.1).isSome = true ∧ t.1 ∉ namesE es ∧ legalL t.1.data.toList = true := by
        intro s hs t ht
        obtain ⟨h1, w, u, hw, hu, e⟩ := sol_names (ownE_mem es) hc hs t ht
        obtain ⟨d, hd, _, hx⟩ := linE_mem hw
        rw [hx] at hu
        rw [← e]
        refine ⟨hf6 d hd u hu, fun h => ?_, htl d hd u hu⟩
        rw [← e] at h1
        rw [(ownE_mem es _).2 h] at h1
        cases h1
      generalize hF : (fun s => (f s).getD 0) = F
      have hFs : ∀ s, F s = (f s).getD 0 := fun s => by rw [← hF]
      refine loop_of (cs := biCs) (fun x w h' => ∃ (j : Nat) (f' : ByteArray → Option Nat), x.2.1 = (j : Int) ∧ j ≤ es.length ∧ w = es.length - j ∧ Ext h3 h' ∧ MapA h' gA f' ∧ (∃ n, MapF eB h' gO o n) ∧
          (∀ s, (∀ k, k < j → ∀ hk : k < es.length, s ≠ eqN es[k].name) → f' s = f s) ∧ (∀ k, k < j → ∀ hk : k < es.length, f' (eqN es[k].name) = some (valL F (solE es es[k].name))))
        (false, (0 : Int), ()) es.length rfl ⟨0, f, rfl, by omega, by omega, e6, a6, ⟨n, m6⟩, fun s _ => rfl, fun k hk => by omega⟩ ?_
      rintro ⟨b14, n15, ⟨⟩⟩ w h7 ⟨j, f', hj0, hjle, rfl, e7, a7, ⟨n7, m7⟩, hsame, hval⟩
      simp only at hj0
      subst hj0
      dsimp only [flat, unc, unc1, List.nil_append, List.cons_append]
      have e07 := e03.trans e7
      refine cond_mk (fun g4 => ?_) (fun g4 => ?_)
      · have g4 := of_decide_eq_true g4
        have hjlt : j < es.length := by omega
        have hjm : j < ms.length := by omega
        obtain ⟨hkn, hkx⟩ := hmk j hjlt hjm
        obtain ⟨a, ha, hat⟩ := vm3.at hjm
        obtain ⟨a0, ha0, hat0⟩ := hi.vw.at hjlt
        have hnme := hnm j hjlt
        have hnsz := hi.names es[j] (List.getElem_mem hjlt)
        have hfmj := hfm _ hnme
        have hsln : (solE es es[j].name).terms.length ≤ 2 ^ 20 := eo.sol_len hc hnme
        have hsnum : (solE es es[j].name).num < 4294967296 := by
          have hs : solE es es[j].name = putS (solO (ownE es) (linE es) (namesE es)) (linE es es[j].name) := sol_eq (ownE_mem es) hc hnme
          rw [hs]
          refine putS_num ?_
          obtain ⟨e, he, _, hx⟩ := linE_mem hnme
          rw [hx]; exact hi.num e he
        generalize ms[j] = mj at hat hkn hkx
        rw [← hkx] at hfmj hsln hsnum
        refine loop_of (cs := biCs) (fun x w h' => h' = h7 ∧ ∃ k : Nat, x.2.1 = (k : Int) ∧ k ≤ mj.x.terms.length ∧ w = mj.x.terms.length - k) (b14, (0 : Int), ()) mj.x.terms.length rfl ⟨rfl, 0, rfl, by omega, by omega⟩ ?_
        rintro ⟨b16, n17, ⟨⟩⟩ w h8 ⟨rfl, k, hk0, hkle, rfl⟩
        simp only at hk0
        subst hk0
        dsimp only [flat, unc, unc1, List.nil_append, List.cons_append]
        have hcc := (hat h8 e7).1
        have hvt := (hat h8 e7).2
        have hel := hvt.len
        refine need_of ⟨by omega, by omega⟩ (osome_mk ha ?_)
        rw [show Int.toNat (j : Int) = j by omega]
        refine loads_of ((mj.p, mj.l, mj.c), ()) ⟨by rw [add_zero']; exact hcc.2.1, trivial⟩ ?_
        dsimp only [flat, unc, unc1, List.nil_append, List.cons_append]
        refine cond_mk (fun g5 => ?_) (fun g5 => ?_)
        · have g5 := of_decide_eq_true g5
          have hklt : k < mj.x.terms.length := by omega
          refine need_of ⟨by omega, by omega⟩ (osome_mk ha ?_)
          refine loads_of ((mj.p, mj.l, mj.c), ()) ⟨by rw [add_zero']; exact hcc.2.1, trivial⟩ ?_
          dsimp only [flat, unc, unc1, List.nil_append, List.cons_append]
          refine need_of ⟨by omega, by omega⟩ ?_
          obtain ⟨a2, ha2, hc2⟩ := hvt.cells k hklt
          refine osome_mk ha2 ?_
          rw [show Int.toNat (k : Int) = k by omega]
          have hno := (hfmj mj.x.terms[k] (List.getElem_mem hklt)).2.1
          generalize mj.x.terms[k] = t at hc2 hno
          refine loads_of (t.1, ()) ⟨hc2.1, trivial⟩ ?_
          dsimp only [flat, unc, unc1, List.nil_append, List.cons_append]
          refine lookB m7 t.1 ?_
          have hwk : IntKind.wrap .i64 ((k : Int) + 1) = ((k + 1 : Nat) : Int) := by rw [wrap_i64 (by omega) (by omega)]; omega
          refine cond_mk (fun g6 => ?_) (fun g6 => ?_)
          · exact (hno (ho6 _ g6)).elim
          · exact again_mk (cs := biCs) (b16, ((k + 1 : Nat) : Int), ()) (mj.x.terms.length - (k + 1)) rfl (by omega) (by rw [hwk]; rfl) ⟨rfl, k + 1, rfl, by omega, rfl⟩
        · refine need_of ⟨by omega, by omega⟩ (osome_mk ha ?_)
          refine loads_of ((mj.p, mj.l, mj.c), (mj.x.num : Int), ()) ⟨by rw [add_zero']; exact hcc.2.1, by rw [add_add]; exact hcc.2.2.1, trivial⟩ ?_
          dsimp only [flat, unc, unc1, List.nil_append, List.cons_append]
          have hf' : ∀ t, t ∈ mj.x.terms → f' t.1 = f t.1 := fun t ht => hsame t.1 fun k _ hk => eqN_legal (hfmj t ht).2.2
          refine valueA (x := mj.x) (c := mj.c) a7 hvt (by omega) hsnum (fun t ht => by rw [hf' t ht]; exact (hfmj t ht).1) ?_
          intro h9 e9
          have hvv : valL (fun s => (f' s).getD 0) mj.x = valL F (solE es es[j].name) := by
            rw [← hkx]
            exact valL_congr fun t ht => by rw [hFs, hf' t ht]
          rw [hvv]
          refine cond_f rfl ?_
          have e39 := e7.trans e9
          have e09 := e03.trans e39
          have hcc9 := (hat h9 e39).1
          have hcc0 := (hat0 h9 e09).1
          refine need_of ⟨by omega, by omega⟩ (osome_mk ha ?_)
          refine loads_of (mj.name, ()) ⟨hcc9.1, trivial⟩ ?_
          dsimp only [flat, unc, unc1, List.nil_append, List.cons_append]
          refine need_of ⟨by omega, by omega⟩ (osome_mk ha0 ?_)
          refine loads_of (es[j].name, ()) ⟨hcc0.1, trivial⟩ ?_
          dsimp only [flat, unc, unc1, List.nil_append, List.cons_append]
          refine cond_f (by rw [eqBL, decide_eq_true hkn]; rfl) ?_
          refine need_of ⟨by omega, by omega⟩ (osome_mk ha0 ?_)
          refine loads_of (es[j].name, ()) ⟨hcc0.1, trivial⟩ ?_
          dsimp only [flat, unc, unc1, List.nil_append, List.cons_append]
          have hn32 := legal_size (hlg _ hnme)
          refine need_of (by omega) ?_
          have a9 := a7.keep e9 (by simp)
          refine putA a9 (by rw [eqN_size]; unfold maxLen; omega) (valL F (solE es es[j].name)) ?_
          intro h10 a10 k10 z10
          have hwj : IntKind.wrap .i64 ((j : Int) + 1) = ((j + 1 : Nat) : Int) := by rw [wrap_i64 (by omega) (by omega)]; omega
          refine again_mk (cs := biCs) (b16, ((j + 1 : Nat) : Int), ()) (es.length - (j + 1)) rfl (by omega) (by rw [hwj]; rfl)
            ⟨j + 1, _, rfl, by omega, rfl, Ch.trans e39 k10 (fun i hi hl => by simp at hi; omega), a10, ⟨n7, (m7.keep e9 (by simp)).keep k10 (by simp; omega)⟩, fun s hs => ?_, fun k hk hkl => ?_⟩
          · rw [fset_other _ _ (hs j (by omega) hjlt)]
            exact hsame s fun k hk hkl => hs k (by omega) hkl
          · by_cases hkj : k = j
            · subst hkj
              exact fset_same _ _ _
            · rw [fset_other _ _ (fun e => by
                have := eqN_inj e
                have hn : (es.map (·.name)).Nodup := hr.nodup
                rcases Nat.lt_or_gt_of_ne hkj with h | h
                · exact List.pairwise_iff_getElem.1 hn k j (by rw [List.length_map]; omega) (by rw [List.length_map]; omega) h (by simpa using this)
                · exact List.pairwise_iff_getElem.1 hn j k (by rw [List.length_map]; omega) (by rw [List.length_map]; omega) h (by simpa using this.symm))]
              exact hval k (by omega) hkl
      · have g4 := of_decide_eq_false g4
        have hjj : j = es.length := by omega
        subst hjj
        clear g4 hjle
        generalize hf1 : f' = f1 at a7 hsame hval
        clear hf1
        refine loop_of (cs := iCs) (fun x w h' => ∃ (j : Nat) (f' : ByteArray → Option Nat), x.1 = (j : Int) ∧ j ≤ es.length ∧ w = es.length - j ∧ Ext h3 h' ∧ MapA h' gA f' ∧
            (∀ s, (∀ k, k < j → ∀ hk : k < es.length, s ≠ es[k].name) → f' s = f1 s) ∧ (∀ k, k < j → ∀ hk : k < es.length, f' es[k].name = some (valL F (solE es es[k].name))))
          ((0 : Int), ()) es.length rfl ⟨0, f1, rfl, by omega, by omega, e7, a7, fun s _ => rfl, fun k hk => by omega⟩ ?_
        rintro ⟨n16, ⟨⟩⟩ w h8 ⟨j, f', hj0, hjle, rfl, e8, a8, hsame2, hval2⟩
        simp only at hj0
        subst hj0
        dsimp only [flat, unc, unc1, List.nil_append, List.cons_append]
        have e08 := e03.trans e8
        refine cond_mk (fun g4 => ?_) (fun g4 => ?_)
        · have g4 := of_decide_eq_true g4
          have hjlt : j < es.length := by omega
          obtain ⟨a0, ha0, hat0⟩ := hi.vw.at hjlt
          have hnme := hnm j hjlt
          have hnsz := hi.names es[j] (List.getElem_mem hjlt)
          have hn32 := legal_size (hlg _ hnme)
          have hcc0 := (hat0 h8 e08).1
          have hv1 : f' (eqN es[j].name) = some (valL F (solE es es[j].name)) := by
            rw [hsame2 _ fun k hk hkl e => eqN_legal (hlg _ (hnm k hkl)) e.symm]
            exact hval j hjlt hjlt
          refine need_of ⟨by omega, by omega⟩ (osome_mk ha0 ?_)
          rw [show Int.toNat (j : Int) = j by omega]
          refine loads_of (es[j].name, ()) ⟨hcc0.1, trivial⟩ ?_
          dsimp only [flat, unc, unc1, List.nil_append, List.cons_append]
          refine need_of ⟨by omega, by omega⟩ (osome_mk ha0 ?_)
          refine loads_of (es[j].name, ()) ⟨hcc0.1, trivial⟩ ?_
          dsimp only [flat, unc, unc1, List.nil_append, List.cons_append]
          refine need_of (by omega) ?_
          refine lookA a8 (eqN es[j].name) ?_
          rw [hv1]
          refine ⟨⟨⟨hcc0.1, trivial⟩, ⟨hcc0.1, trivial⟩, trivial⟩, ?_⟩
          refine putA a8 hnsz (valL F (solE es es[j].name)) ?_
          intro h9 a9 k9 z9
          have hwj : IntKind.wrap .i64 ((j : Int) + 1) = ((j + 1 : Nat) : Int) := by rw [wrap_i64 (by omega) (by omega)]; omega
          refine again_mk (cs := iCs) (((j + 1 : Nat) : Int), ()) (es.length - (j + 1)) rfl (by omega) (by rw [hwj]; rfl)
            ⟨j + 1, _, rfl, by omega, rfl, Ch.trans e8 k9 (fun i hi hl => by simp at hi; omega), a9, fun s hs => ?_, fun k hk hkl => ?_⟩
          · rw [fset_other _ _ (hs j (by omega) hjlt)]
            exact hsame2 s fun k hk hkl => hs k (by omega) hkl
          · by_cases hkj : k = j
            · subst hkj
              exact fset_same _ _ _
            · rw [fset_other _ _ (fun this => by
                have hn : (es.map (·.name)).Nodup := hr.nodup
                rcases Nat.lt_or_gt_of_ne hkj with h | h
                · exact List.pairwise_iff_getElem.1 hn k j (by rw [List.length_map]; omega) (by rw [List.length_map]; omega) h (by simpa using this)
                · exact List.pairwise_iff_getElem.1 hn j k (by rw [List.length_map]; omega) (by rw [List.length_map]; omega) h (by simpa using this.symm))]
              exact hval2 k (by omega) hkl
        · have g4 := of_decide_eq_false g4
          have hjj : j = es.length := by omega
          subst hjj
          have hown2 : ∀ s, s ∈ namesE es → f' s = some (valL F (solE es s)) := by
            intro s hs
            obtain ⟨e, he, rfl⟩ := List.mem_map.1 hs
            obtain ⟨k, hk, rfl⟩ := List.getElem_of_mem he
            exact hval2 k hk hk
          have hoth : ∀ s, s ∉ namesE es → legalL s.data.toList = true → f' s = f s := by
            intro s hs hl
            rw [hsame2 s fun k _ hkl e => hs (by rw [e]; exact hnm k hkl)]
            exact hsame s fun k _ hkl => eqN_legal hl
          refine loop_of (cs := biCs) (fun x w h' => ∃ j : Nat, x.2.1 = (j : Int) ∧ j ≤ es.length ∧ w = es.length - j ∧ Ext h8 h') (b14, (0 : Int), ()) es.length rfl ⟨0, rfl, by omega, by omega, Ch.refl _ _⟩ ?_
          rintro ⟨b17, n18, ⟨⟩⟩ w h9 ⟨j, hj0, hjle2, rfl, e9⟩
          simp only at hj0
          subst hj0
          dsimp only [flat, unc, unc1, List.nil_append, List.cons_append]
          have e09 := e08.trans e9
          have a9 := a8.keep e9 (by simp)
          refine cond_mk (fun g5 => ?_) (fun g5 => ?_)
          · have g5 := of_decide_eq_true g5
            have hjlt : j < es.length := by omega
            obtain ⟨a0, ha0, hat0⟩ := hi.vw.at hjlt
            have hnme := hnm j hjlt
            have hmem := List.getElem_mem hjlt
            have hlin : linE es es[j].name = es[j].x := linE_of hr.nodup hmem
            have htlen : es[j].x.terms.length ≤ 2 ^ 20 := by have := flatMap_mem_length (fun e : EqM => e.x.terms) hmem; omega
            have hsv := sol_val hc hnme (f := F) (g := fun s => (f' s).getD 0) (fun s hs => by rw [hown2 s hs]; rfl) (fun t ht hn => by
              rw [hlin] at ht
              show (f' t.1).getD 0 = F t.1
              rw [hFs, hoth t.1 hn (htl _ hmem t ht)])
            rw [hlin] at hsv
            refine need_of ⟨by omega, by omega⟩ (osome_mk ha0 ?_)
            rw [show Int.toNat (j : Int) = j by omega]
            have hcc0 := (hat0 h9 e09).1
            refine loads_of ((es[j].p, es[j].l, es[j].c), (es[j].x.num : Int), ()) ⟨by rw [add_zero']; exact hcc0.2.1, by rw [add_add]; exact hcc0.2.2.1, trivial⟩ ?_
            dsimp only [flat, unc, unc1, List.nil_append, List.cons_append]
            refine valueA (x := es[j].x) (c := es[j].c) a9 (hat0 h9 e09).2 (by omega) (hi.num _ hmem) (fun t ht => ?_) ?_
            · by_cases hn : t.1 ∈ namesE es
              · rw [hown2 _ hn]; rfl
              · rw [hoth _ hn (htl _ hmem t ht)]
                exact hf6 _ hmem t ht
            · intro h10 e10
              refine cond_f rfl ?_
              have hcc10 := (hat0 h10 (e09.trans e10)).1
              refine need_of ⟨by omega, by omega⟩ (osome_mk ha0 ?_)
              refine loads_of (es[j].name, ()) ⟨hcc10.1, trivial⟩ ?_
              dsimp only [flat, unc, unc1, List.nil_append, List.cons_append]
              refine lookA (a9.keep e10 (by simp)) es[j].name ?_
              refine cond_f (by rw [hown2 _ hnme, ← hsv]; simp) ?_
              have hwj : IntKind.wrap .i64 ((j : Int) + 1) = ((j + 1 : Nat) : Int) := by rw [wrap_i64 (by omega) (by omega)]; omega
              exact again_mk (cs := biCs) (b17, ((j + 1 : Nat) : Int), ()) (es.length - (j + 1)) rfl (by omega) (by rw [hwj]; rfl) ⟨j + 1, rfl, by omega, rfl, e9.trans e10⟩
          · exact knownT fun h' e => ⟨rfl, e09.trans e⟩
end Go.Sx

set_option linter.unusedVariables false
set_option maxRecDepth 100000
namespace Go.Sx
open Go.Proofs
theorem cellsAt_shift {h : Hp} {a : Addr} : ∀ (vs : List Value) (o i : Nat), cellsAt h (a.add o) i vs → cellsAt h a (o + i) vs
  | [], _, _, _ => trivial
  | v :: vs, o, i, hc => ⟨by have := hc.1; rw [add_add] at this; exact this, cellsAt_shift vs o (i + 1) hc.2⟩
theorem cellsAt_append {h : Hp} {a : Addr} : ∀ (vs us : List Value) (i : Nat), cellsAt h a i vs → cellsAt h a (i + vs.length) us → cellsAt h a i (vs ++ us)
  | [], us, i, _, hu => hu
  | v :: vs, us, i, hv, hu => ⟨hv.1, cellsAt_append vs us (i + 1) hv.2 (by rw [List.length_cons] at hu; rw [show i + 1 + vs.length = i + (vs.length + 1) by omega]; exact hu)⟩
theorem cellsE_flat {h : Hp} {a : Addr} : ∀ (es : List EqM) (k : Nat), (∀ i, (hi : i < es.length) → cellsAt h (a.add ((k + i) * 3)) 0 (eqV es[i])) → cellsAt h a (k * 3) (es.map eqV).flatten
  | [], _, _ => trivial
  | e :: es, k, hc => by
    rw [List.map_cons, List.flatten_cons]
    refine cellsAt_append _ _ _ ?_ ?_
    · have := cellsAt_shift _ _ _ (hc 0 (by simp))
      simpa using this
    · have := cellsE_flat es (k + 1) (fun i hi => by
        have := hc (i + 1) (by simpa using hi)
        rw [show k + (i + 1) = k + 1 + i by omega] at this
        exact this)
      rw [show (k + 1) * 3 = k * 3 + (eqV e).length by simp [eqV]; omega] at this
      exact this
theorem cellsAt_add {h : Hp} {a : Addr} : ∀ (vs : List Value) (o i : Nat), cellsAt h a (o + i) vs → cellsAt h (a.add o) i vs
  | [], _, _, _ => trivial
  | v :: vs, o, i, hc => ⟨by rw [add_add]; exact hc.1, cellsAt_add vs o (i + 1) hc.2⟩
theorem eqV_plain (es : List EqM) : (es.map eqV).flatten.all plainV = true := by
  induction es with
  | nil => rfl
  | cons e es ih => rw [List.map_cons, List.flatten_cons, List.all_append, ih]; rfl
theorem eqV_len (es : List EqM) : ∀ y, y ∈ es.map eqV → y.length = 3 := by
  intro y hy
  obtain ⟨e, _, rfl⟩ := List.mem_map.1 hy
  rfl
/-- A list turned. -/
abbrev rotL {α : Type} (k : Nat) (l : List α) : List α := l.drop k ++ l.take k
theorem rot_of {L : Lp} {K : Value → Hp → Prop} {h : Hp} {p : Option Addr} {l c : Nat} {es : List EqM} (v : VwE h p l es) (hne : es ≠ []) (hlc : l ≤ c) (hl : l ≤ 2 ^ 20) {k : Nat} (hk : k ≤ l) {kk : Option Addr → Nat → Nat → T} (hkk : ∀ p' c' h', SL h' h.size 38 3 p' l c' ((rotL k es).map eqV) → Ext h h' → kk p' l c' L K h') :
    T.sem Try.prog (Instr.buildSlice 22 0 #[]) false [(false, [.slice 0])] (fun p4 l5 l6 =>
     T.sem Try.prog (Builtin.append_ #[22, 22] 22 #[.slice p4 l5 l6, .slice (if (c = (Int.toNat (k : Int))) then p else (Option.map (fun a => Addr.add a ((Int.toNat (k : Int)) * 3)) p)) ((Int.toNat (l : Int)) - (Int.toNat (k : Int))) (c - (Int.toNat (k : Int)))]) false [(false, [.slice 0])] (fun p7 l8 l9 =>
     T.sem Try.prog (Builtin.append_ #[22, 22] 22 #[.slice p7 l8 l9, .slice (if (c = 0) then p else (Option.map (fun a => Addr.add a 0) p)) ((Int.toNat (k : Int)) - 0) (c - 0)]) false [(false, [.slice 0])] kk)) L K h := by
  have hll := v.len
  have hpos : 0 < es.length := List.length_pos_iff.2 hne
  obtain ⟨a, ha, _⟩ := v.cells 0 hpos
  subst ha
  have hcell : ∀ i, (hi : i < es.length) → cellsAt h (a.add (i * 3)) 0 (eqV es[i]) := fun i hi => by
    obtain ⟨a', e, hc⟩ := v.cells i hi
    cases e
    exact hc
  rw [show Int.toNat (k : Int) = k by omega, show Int.toNat (l : Int) = l by omega]
  refine copyLit_of (ys := (es.drop k).map eqV) und22 equZ rfl ?_ (by rw [List.length_map, List.length_drop]; omega) (eqV_len _) (eqV_plain _) (by omega) (by omega) ?_
  · right
    by_cases hck : c = k
    · have : es.drop k = [] := List.drop_of_length_le (by omega)
      refine ⟨a, by rw [if_pos hck], ?_⟩
      rw [this]
      trivial
    · refine ⟨a.add (k * 3), by rw [if_neg hck]; rfl, ?_⟩
      refine cellsAt_add _ _ _ ?_
      rw [Nat.add_zero]
      refine cellsE_flat (es.drop k) k fun i hi => ?_
      rw [List.getElem_drop]
      exact hcell (k + i) (by rw [List.length_drop] at hi; omega)
  · intro p1 c1 h1 s1 e1
    obtain ⟨i, hi, hz, hsz, hby⟩ := inf_of equZ
    have hc2 : cellsAt h1 a 0 ((es.take k).map eqV).flatten := by
      have := cellsE_flat (h := h) (a := a) (es.take k) 0 fun i hi => by
        rw [List.length_take] at hi
        rw [List.getElem_take, Nat.zero_add]
        exact hcell i (by omega)
      rw [Nat.zero_mul] at this
      exact cellsAt_keep e1 (by simp) _ _ this
    have hpp : (if (c = 0) then some a else (Option.map (fun a => Addr.add a 0) (some a))) = some a := by
      split
      · rfl
      · simp only [Option.map_some, add_zero']
    rw [hpp, Nat.sub_zero, Nat.sub_zero]
    refine sem_slice ?_
    have hz1 := e1.size
    refine append_of (ys := (es.take k).map eqV) und22 hi hz (by rw [hsz]; rfl) (by rw [hsz]; exact s1) (by rw [List.length_map, List.length_take]; omega) (fun y hy => by rw [hsz]; exact eqV_len _ y hy) hc2 (eqV_plain _) (by rw [hby]; omega) (by omega) (by omega) ?_
    intro p2 c2 h2 s2 k2 hp2
    have hlk : l - k + k = l := by omega
    rw [hlk] at s2 ⊢
    rw [hsz] at s2
    refine ⟨p2, l, c2, rfl, hkk p2 c2 h2 ?_ (Ch.trans e1 k2 fun j hj hl => by have := (s1.blk hj).1; omega)⟩
    rw [List.map_append]
    exact s2
theorem rot_perm {α : Type} (k : Nat) (l : List α) : (rotL k l).Perm l := by
  have h : (rotL k l).Perm (l.take k ++ l.drop k) := List.perm_append_comm
  rw [List.take_append_drop] at h
  exact h
theorem rot_map {α β : Type} (f : α → β) (k : Nat) (l : List α) : (rotL k l).map f = rotL k (l.map f) := by
  unfold rotL
  rw [List.map_append, List.map_drop, List.map_take]
theorem EqsSm.perm {es fs : List EqM} (o : EqsSm es) (hp : fs.Perm es) : EqsSm fs := by
  have hm : ∀ e, e ∈ fs → e ∈ es := fun e he => hp.mem_iff.1 he
  refine ⟨⟨((hp.map _).nodup_iff).2 o.nodup, by rw [hp.length_eq]; exact o.len, fun e he => o.sz e (hm e he), fun e he => o.tl e (hm e he), fun e he => o.ts e (hm e he)⟩, ?_⟩
  have : (fs.flatMap (·.x.terms)).Perm (es.flatMap (·.x.terms)) := hp.flatMap_right _
  rw [this.length_eq]
  exact o.tot
theorem names_perm {es fs : List EqM} (hp : fs.Perm es) (s : ByteArray) : s ∈ namesE fs ↔ s ∈ namesE es := (hp.map _).mem_iff
theorem own_perm {es fs : List EqM} (hp : fs.Perm es) : ownE fs = ownE es := by
  funext s
  have := names_perm hp s
  rw [← ownE_mem, ← ownE_mem] at this
  cases h1 : ownE fs s <;> cases h2 : ownE es s <;> simp_all
theorem linE_outZ {es : List EqM} {s : ByteArray} (h : s ∉ namesE es) : linE es s = linZ := by
  unfold linE
  rw [plc_none fun d hd e => h (by rw [← e]; exact List.mem_map_of_mem hd)]
  rfl
theorem lin_perm {es fs : List EqM} (hn : (namesE es).Nodup) (hp : fs.Perm es) : linE fs = linE es := by
  have hn2 : (namesE fs).Nodup := ((hp.map _).nodup_iff).2 hn
  funext s
  by_cases h : s ∈ namesE es
  · obtain ⟨e, he, rfl⟩ := List.mem_map.1 h
    rw [linE_of hn he, linE_of hn2 (hp.mem_iff.2 he)]
  · rw [linE_outZ h, linE_outZ fun k => h ((names_perm hp s).1 k)]
theorem sol_perm {es fs : List EqM} (hn : (namesE es).Nodup) (hp : fs.Perm es) (s : ByteArray) : solE fs s = solE es s := by
  show sol (ownE fs) (linE fs) (namesE fs) s = sol (ownE es) (linE es) (namesE es) s
  unfold sol
  rw [own_perm hp, lin_perm hn hp, show (namesE fs).length = (namesE es).length from (hp.map _).length_eq]
theorem edg_perm {es fs : List EqM} (hn : (namesE es).Nodup) (hp : fs.Perm es) : edgE fs = edgE es := by
  show Edge (ownE fs) (succL (linE fs)) = Edge (ownE es) (succL (linE es))
  rw [own_perm hp, lin_perm hn hp]
theorem within_hc (n : Int) (l : Nat) (hl : l ≤ 60) (h0 : 0 < l) (h : Hp) : HC Try.prog 22 #[.int .i64 n, .int .i64 (0 : Int), .int .i64 (IntKind.wrap .i64 ((l : Int) - (1 : Int)))] h fun v h' => (∃ k : Nat, v = .int .i64 (k : Int) ∧ k < l) ∧ h' = h := by
  refine hcr_of (args := [.int .i64 n, .int .i64 (0 : Int), .int .i64 (IntKind.wrap .i64 ((l : Int) - (1 : Int)))]) mixed Try.func22 (by kernel_rfl) (t_spandrelbook_Within_eq n 0 _) ?_
  unfold t_spandrelbook_Within
  have w : ∀ x : Int, -1000 ≤ x → x ≤ 1000 → IntKind.wrap .i64 x = x := fun x h1 h2 => wrap_i64 (by omega) (by omega)
  have e1 : IntKind.wrap .i64 ((l : Int) - 1) = (l : Int) - 1 := w _ (by omega) (by omega)
  have e2 : IntKind.wrap .i64 (IntKind.wrap .i64 (((l : Int) - 1) - 0) + 1) = (l : Int) := by
    rw [w (((l : Int) - 1) - 0) (by omega) (by omega), w _ (by omega) (by omega)]; omega
  rw [e1, e2]
  have hm1 : Int.tmod n (l : Int) < (l : Int) := Int.tmod_lt_of_pos n (by omega)
  have hm2 : -(l : Int) < Int.tmod n (l : Int) := by have := Int.lt_tmod_of_pos n (show (0:Int) < (l : Int) by omega); omega
  generalize Int.tmod n (l : Int) = r at hm1 hm2 ⊢
  refine need_of (by omega) ?_
  refine cond_mk (fun g => ?_) (fun g => ?_)
  · have g := of_decide_eq_true g
    have e3 : IntKind.wrap .i64 (0 + IntKind.wrap .i64 (IntKind.wrap .i64 (IntKind.wrap .i64 (r + ((l : Int) - 1)) - 0) + 1)) = ((r + l).toNat : Int) := by
      rw [w (r + ((l : Int) - 1)) (by omega) (by omega), w (r + ((l : Int) - 1) - 0) (by omega) (by omega), w (r + ((l : Int) - 1) - 0 + 1) (by omega) (by omega), w _ (by omega) (by omega)]
      omega
    exact ⟨⟨(r + l).toNat, by rw [e3], by omega⟩, rfl⟩
  · have g := of_decide_eq_false g
    exact ⟨⟨r.toNat, by rw [w (0 + r) (by omega) (by omega)]; congr 1; omega, by omega⟩, rfl⟩
theorem equTurned_hc {h : Hp} {p : Option Addr} {l c : Nat} {es : List EqM} {N : Nat} (hi : EquIn h p l c es N) (hN : N ≤ 2 ^ 20) (n1 : Int) :
    HC Try.prog 6 #[.slice p l c, .int .i64 n1] h fun w h' => w = .bool true ∧ Ext h h' := by
  refine hcr_of (args := [.slice p l c, .int .i64 n1]) mixed Try.func6 (by kernel_rfl) (t_spandrellaw11_EquTurned_eq p l c n1) ?_
  unfold t_spandrellaw11_EquTurned
  have hm := hi.many
  have hll := hi.vw.len
  refine call_of (right_hc (c := c) hi.vw hi.names (fun e he => ⟨by have := flatMap_mem_length (fun e : EqM => e.x.terms) he; omega, fun t ht => (hi.terms e he t ht).1⟩)) ?_
  rintro _ h1 ⟨⟨b, rfl, hb⟩, e1⟩
  refine ⟨(b, ()), rfl, ?_⟩
  dsimp only [flat, unc, unc1, List.nil_append, List.cons_append]
  refine cond_mk (fun g1 => knownT fun h' e => ⟨rfl, e1.trans e⟩) (fun g1 => ?_)
  have hr := hb (by simpa using g1)
  have eo := hi.sm hN hr
  have hl60 := hr.len
  refine cond_mk (fun g2 => knownT fun h' e => ⟨rfl, e1.trans e⟩) (fun g2 => ?_)
  have hl0 : l ≠ 0 := fun e => by rw [e] at g2; simp at g2
  have hne : es ≠ [] := fun e => by rw [e] at hll; exact hl0 hll
  refine call_of (within_hc n1 l (by omega) (by omega) h1) ?_
  rintro _ _ ⟨⟨k, rfl, hkl⟩, rfl⟩
  refine ⟨((k : Int), ()), rfl, ?_⟩
  dsimp only [flat, unc, unc1, List.nil_append, List.cons_append]
  have hcap := hi.cap
  refine need_of ⟨by omega, by omega, by omega⟩ (need_of ⟨by omega, by omega, by omega⟩ ?_)
  refine rot_of (hi.vw.keep e1) hne hcap (by omega) (by omega) ?_
  intro p10 c12 h2 s2 e2
  have e02 := e1.trans e2
  have hz02 := e02.size
  have hperm := rot_perm k es
  have eof := eo.perm hperm
  have vf2 : VwE h2 p10 l (rotL k es) := ⟨by rw [hperm.length_eq]; exact hll, fun i hi2 => by
    obtain ⟨a, ha, hc⟩ := s2.cells (i := i) (by simpa using hi2)
    rw [List.getElem_map] at hc
    exact ⟨a, ha, hc⟩, fun e he => (hi.vw.keep e02).inn e (hperm.mem_iff.1 he)⟩
  have hedg := edg_perm eo.nodup hperm
  refine call_of (solveAll_hc (c := c) (hi.vw.keep e02) eo (fun i hb => by have := hi.blk i hb; omega) (by omega)) ?_
  rintro w3 h3 ⟨hs3, e3⟩
  have s3 := s2.keep e3 (by simp)
  have vf3 := vf2.keep e3
  have hs4 := solveAll_hc (c := c12) vf3 eof (fun i hb => (s3.blk hb).2) (by rw [hperm.length_eq]; omega)
  have e03 := e02.trans e3
  rcases hs3 with ⟨i, hil, ho, _, rfl⟩ | ⟨hc, p13, l14, l15, ms, rfl, own, hms⟩
  · refine ⟨((none, 0, 0), (i : Int), (24 : Int), ()), rfl, ?_⟩
    dsimp only [flat, unc, unc1, List.nil_append, List.cons_append]
    refine call_of hs4 ?_
    rintro w4 h4 ⟨hs4, e4⟩
    have e04 := e03.trans e4
    rcases hs4 with ⟨j, hjl, _, _, rfl⟩ | ⟨hc, _⟩
    · refine ⟨((none, 0, 0), (j : Int), (24 : Int), ()), rfl, ?_⟩
      dsimp only [flat, unc, unc1, List.nil_append, List.cons_append]
      refine cond_f rfl (cond_f rfl (cond_t rfl ?_))
      refine call_of (cycle_hc (c := c) (hi.vw.keep e04) eo.toEqsOk (fun i hb => by have := hi.blk i hb; have := e04.size; omega)) ?_
      rintro _ h5 ⟨⟨p23, l24, c25, ks, rfl, sk, hks, hso⟩, e5⟩
      refine ⟨((p23, l24, c25), ()), rfl, ?_⟩
      dsimp only [flat, unc, unc1, List.nil_append, List.cons_append]
      have s5 := (s3.keep e4 (by simp)).keep e5 (by simp)
      refine call_of (cycle_hc (c := c12) ((vf3.keep e4).keep e5) eof.toEqsOk (fun i hb => (s5.blk hb).2)) ?_
      rintro _ h6 ⟨⟨p26, l27, c28, ks2, rfl, sk2, hks2, hso2⟩, e6⟩
      refine ⟨((p26, l27, c28), ()), rfl, ?_⟩
      dsimp only [flat, unc, unc1, List.nil_append, List.cons_append]
      have hkk : ks = ks2 := ltN_uniq hso hso2 fun s => by
        rw [hks s, hks2 s]
        show OnC (edgE es) s ↔ OnC (edgE (rotL k es)) s
        rw [hedg]
      have hlk : ks.length ≤ es.length := by
        have h1 := nodup_le ks (namesE es) (hso.imp fun h => ltN_ne h) fun s hs => (ownE_mem es s).1 ((hks s).1 hs).isOwn
        unfold namesE at h1
        rw [List.length_map] at h1
        exact h1
      refine call_bool (sameS_hc (sk.keep e6 (by simp)) sk2 hkk (by rw [sk.1, List.length_map]; omega)) ?_
      refine cond_t rfl ?_
      exact knownT fun h' e => ⟨rfl, ((e04.trans e5).trans e6).trans e⟩
    · refine (hc es[i].name ?_).elim
      rw [hedg]
      exact ho
  · refine ⟨((p13, l14, l15), (0 : Int), (0 : Int), ()), rfl, ?_⟩
    dsimp only [flat, unc, unc1, List.nil_append, List.cons_append]
    refine call_of hs4 ?_
    rintro w4 h4 ⟨hs4, e4⟩
    have e04 := e03.trans e4
    rcases hs4 with ⟨j, hjl, ho, _, rfl⟩ | ⟨_, p18, l19, l20, ns, rfl, own2, hns⟩
    · rw [hedg] at ho
      exact (hc _ ho).elim
    · refine ⟨((p18, l19, l20), (0 : Int), (0 : Int), ()), rfl, ?_⟩
      dsimp only [flat, unc, unc1, List.nil_append, List.cons_append]
      have hmsl : ms.length = es.length := by have := congrArg List.length hms; simpa using this
      have hnsl : ns.length = es.length := by
        have h1 := congrArg List.length hns
        rw [List.length_map, List.length_map, hperm.length_eq] at h1
        exact h1
      have hl14 : l14 = es.length := by rw [own.out.1, List.length_map, hmsl]
      have hl19 : l19 = es.length := by rw [own2.out.1, List.length_map, hnsl]
      refine cond_f rfl ?_
      refine cond_f (by have : (l14 : Int) = (l19 : Int) := by omega
                        simp [this]) ?_
      refine cond_f rfl ?_
      have own4 := own.keep e4 (by simp)
      have vm4 := vwE_own own4
      have hcap14 := own4.out.le_cap
      have hmne : ms ≠ [] := fun e => by rw [e] at hmsl; exact hne (List.eq_nil_of_length_eq_zero (by simpa using hmsl.symm))
      refine need_of ⟨by omega, by omega, by omega⟩ (need_of ⟨by omega, by omega, by omega⟩ ?_)
      refine rot_of vm4 hmne hcap14 (by omega) (by omega) ?_
      intro p29 c31 h5 s5 e5
      have hpm := rot_perm k ms
      have own5 := own4.keep e5 (by simp)
      have vm5 := vwE_own own5
      have vr5 : VwE h5 p29 l14 (rotL k ms) := ⟨by rw [hpm.length_eq]; omega, fun i hi2 => by
        obtain ⟨a, ha, hc⟩ := s5.cells (i := i) (by simpa using hi2)
        rw [List.getElem_map] at hc
        exact ⟨a, ha, hc⟩, fun e he => vm5.inn e (hpm.mem_iff.1 he)⟩
      have vn5 := (vwE_own own2).keep e5
      have hkey : (rotL k ms).map eKey = ns.map eKey := by
        have h1 : ms.map eKey = es.map (fun e => (e.name, solE es e.name)) := hms
        have h2 : ns.map eKey = (rotL k es).map (fun e => (e.name, solE (rotL k es) e.name)) := hns
        rw [rot_map, h1, h2, rot_map]
        have hf : (fun e : EqM => (e.name, solE (rotL k es) e.name)) = fun e => (e.name, solE es e.name) := by
          funext e
          rw [sol_perm eo.nodup hperm]
        rw [hf]
      have hme : ∀ m, m ∈ ms → m.name ∈ namesE es ∧ m.x = solE es m.name := by
        intro m hm
        have h1 : (m.name, m.x) ∈ ms.map (fun m => (m.name, m.x)) := List.mem_map_of_mem (f := fun m : EqM => (m.name, m.x)) hm
        rw [hms] at h1
        obtain ⟨e, he, e1⟩ := List.mem_map.1 h1
        simp only [Prod.mk.injEq] at e1
        refine ⟨by rw [← e1.1]; exact List.mem_map_of_mem he, by rw [← e1.1, ← e1.2]⟩
      have hmtl : ∀ m, m ∈ ms → m.x.terms.length ≤ 2 ^ 20 := fun m hm => by rw [(hme m hm).2]; exact eo.sol_len hc (hme m hm).1
      have hmsz : ∀ m, m ∈ ms → ∀ t, t ∈ m.x.terms → t.1.size ≤ maxLen := fun m hm => by rw [(hme m hm).2]; exact eo.sol_sz hc (hme m hm).1
      have hnames : namesE ms = namesE es := by
        have h1 : (ms.map (fun m => (m.name, m.x))).map (·.1) = (es.map (fun e => (e.name, solE es e.name))).map (·.1) := by rw [hms]
        rw [List.map_map, List.map_map] at h1
        exact h1
      refine call_boolx (sameEqus_hc (c := c31) (d := l20) vr5 vn5 hkey (by rw [hpm.length_eq]; omega) (fun e he => by have := hmtl e (hpm.mem_iff.1 he); omega)) ?_
      intro h6 e6
      refine cond_f rfl ?_
      have e56 := e5.trans e6
      have own6 := own4.keep e56 (by simp)
      have vm6 := vwE_own own6
      have mo : EqsOk ms := ⟨by rw [hnames]; exact eo.nodup, by omega, fun m hm => eo.toEqsOk.names _ (hme m hm).1, fun m hm => by have := hmtl m hm; omega, hmsz⟩
      have mtot : (ms.flatMap (·.x.terms)).length ≤ 2 ^ 39 := by
        have : ∀ l : List EqM, (∀ e, e ∈ l → e.x.terms.length ≤ 2 ^ 20) → (l.flatMap (·.x.terms)).length ≤ l.length * 2 ^ 20 := by
          intro l
          induction l with
          | nil => intro _; simp
          | cons e l ih =>
            intro h
            rw [List.flatMap_cons, List.length_append, List.length_cons]
            have := h e (by simp)
            have := ih fun d hd => h d (List.mem_cons_of_mem _ hd)
            omega
        have := this ms hmtl
        have h2 : ms.length * 2 ^ 20 ≤ 60 * 2 ^ 20 := Nat.mul_le_mul_right _ (by omega)
        omega
      have e06 := e04.trans e56
      refine loop_of (cs := biCs) (fun x w h' => ∃ j : Nat, x.2.1 = (j : Int) ∧ j ≤ ms.length ∧ w = ms.length - j ∧ Ext h6 h') (false, (0 : Int), ()) ms.length rfl ⟨0, rfl, by omega, by omega, Ch.refl _ _⟩ ?_
      rintro ⟨b33, n34, ⟨⟩⟩ w h7 ⟨j, hj0, hjle, rfl, e7⟩
      simp only at hj0
      subst hj0
      dsimp only [flat, unc, unc1, List.nil_append, List.cons_append]
      refine cond_mk (fun g5 => ?_) (fun g5 => knownT fun h' e => ⟨rfl, (e06.trans e7).trans e⟩)
      have g5 := of_decide_eq_true g5
      have hjlt : j < ms.length := by omega
      obtain ⟨a, ha, hat⟩ := vm6.at hjlt
      have hmj := List.getElem_mem hjlt
      have hmx := hme ms[j] hmj
      have hml := hmtl ms[j] hmj
      have hms' := hmsz ms[j] hmj
      generalize ms[j] = mj at hat hmx hml hms'
      have hcc := (hat h7 e7).1
      have hvt := (hat h7 e7).2
      have hst : ∀ h', Ext h6 h' → cellsAt h' ((a.add (j * 3)).add 1) 0 [.slice mj.p mj.l mj.c, .int .u32 (mj.x.num : Int)] := fun h' e => by
        have := (hat h' e).1
        exact ⟨by rw [add_zero']; exact this.2.1, by rw [add_add]; exact this.2.2.1, trivial⟩
      refine need_of ⟨by omega, by omega⟩ (osome_mk ha ?_)
      rw [show Int.toNat (j : Int) = j by omega]
      refine loads_of ((mj.p, mj.l, mj.c), (mj.x.num : Int), ()) (hst h7 e7) ?_
      dsimp only [flat, unc, unc1, List.nil_append, List.cons_append]
      refine need_of ⟨by omega, by omega⟩ (osome_mk ha ?_)
      refine loads_of ((mj.p, mj.l, mj.c), (mj.x.num : Int), ()) (hst h7 e7) ?_
      dsimp only [flat, unc, unc1, List.nil_append, List.cons_append]
      have hnf : Nf mj.x.terms := by rw [hmx.2]; exact sol_nf (ownE_mem es) hc hmx.1
      have hnum : mj.x.num < 4294967296 := by
        rw [hmx.2]
        have hs : solE es mj.name = putS (solO (ownE es) (linE es) (namesE es)) (linE es mj.name) := sol_eq (ownE_mem es) hc hmx.1
        rw [hs]
        refine putS_num ?_
        obtain ⟨e, he, _, hx⟩ := linE_mem hmx.1
        rw [hx]; exact hi.num e he
      have hput : linAdd (putS (linO ms) mj.x) linZ = mj.x := by
        have : putS (linO ms) mj.x = mj.x := by
          refine putS_none hnf fun t ht => ?_
          unfold linO
          refine if_neg fun ho => ?_
          have h1 := (ownE_mem ms _).1 ho
          rw [hnames] at h1
          rw [hmx.2] at ht
          have h2 := (sol_names (ownE_mem es) hc hmx.1 t ht).1
          rw [(ownE_mem es _).2 h1] at h2
          cases h2
        rw [this, linAdd_zero hnf hnum]
      refine call_of (put_hc (x := mj.x) (c := mj.c) (d := l15) hvt (vm6.keep e7) mo hmtl mtot (by omega) hml hms') ?_
      rintro _ h8 ⟨⟨p45, l46, c47, rfl, s8⟩, e8⟩
      rw [hput] at s8
      refine ⟨((p45, l46, c47), (mj.x.num : Int), ()), by rw [hput]; rfl, ?_⟩
      dsimp only [flat, unc, unc1, List.nil_append, List.cons_append]
      refine ⟨⟨hst h8 (e7.trans e8), trivial⟩, ?_⟩
      refine call_boolx (same64_hc (x := mj.x) (y := mj.x) (c := c47) (d := mj.c) (vwT_sl s8) (hat h8 (e7.trans e8)).2 (by omega)) ?_
      intro h9 e9
      have e69 := (e7.trans e8).trans e9
      refine ⟨⟨hst h9 e69, trivial⟩, ?_⟩
      refine cond_f (by rw [linB_refl]; rfl) ?_
      have hwj : IntKind.wrap .i64 ((j : Int) + 1) = ((j + 1 : Nat) : Int) := by rw [wrap_i64 (by omega) (by omega)]; omega
      exact again_mk (cs := biCs) (b33, ((j + 1 : Nat) : Int), ()) (ms.length - (j + 1)) rfl (by omega) (by rw [hwj]; rfl) ⟨j + 1, rfl, by omega, rfl, e69⟩
end Go.Sx
