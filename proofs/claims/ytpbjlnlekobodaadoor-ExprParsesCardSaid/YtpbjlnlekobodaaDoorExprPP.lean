/- The document's reader of expressions over heaps; the law ExprParses: it answers true. Condition: as each statement says. -/
import Derived.Test.YtpbjlnlekobodaaDoorExprSO
import Derived.Test.YtpbjlnlekobodaaDoorExprRR
import Derived.Test.YtpbjlnlekobodaaDoorExprR
set_option linter.unusedVariables false
set_option linter.unusedSimpArgs false
set_option maxRecDepth 100000
namespace Go.Sx
open Go.Proofs
/-- The reader's cell, by what is still to be read. -/
def RQ (h : Hp) (A : Nat) (us ts : List Tok) (d : Int) (e : Nat) : Prop := ∃ k, RB h A us k d e ∧ ts = us.drop k
theorem RQ.keep {ws : List Nat} {h h' : Hp} {A : Nat} {us ts : List Tok} {d : Int} {e : Nat} (b : RQ h A us ts d e) (c : Ch ws h h') (hw : ∀ i, i ∈ ws → A < i) : RQ h' A us ts d e := by
  obtain ⟨k, b, ht⟩ := b
  exact ⟨k, b.keep c hw, ht⟩
theorem RQ.lt {h : Hp} {A : Nat} {us ts : List Tok} {d : Int} {e : Nat} (b : RQ h A us ts d e) : A < h.size := by
  obtain ⟨k, b, ht⟩ := b
  exact b.lt
def ResR (h : Hp) (A : Nat) (us : List Tok) (n : Nat) (d : Int) (res : PRes) (v : Value) (h' : Hp) : Prop :=
  Ch [A] h h' ∧ ∃ x p l c ts' d' e', v = linV p l c x ∧ SL h' h.size 80 2 p l c (x.terms.map encT) ∧ Good x ∧ RQ h' A us ts' d' e' ∧ PostR n d x ts' d' e' res
def RdC (f : FuncId) (A : Nat) (us : List Tok) (d : Nat) (g : List Tok → PRes) : Prop :=
  ∀ h ts, RQ h A us ts d 0 → Wf ts → ts.length ≤ 2 ^ 40 → HC Tryd.prog f #[ptr A] h (ResR h A us ts.length d (g ts))
section rules
variable {L : Lp} {K : Value → Hp → Prop} {h : Hp}
theorem step_of {A : Nat} {us r : List Tok} {t : Tok} {d : Int} {e : Nat} {k : T} (b : RQ h A us (t :: r) d e) (hk : ∀ h', Ch [A] h h' → RQ h' A us r d e → k L K h') :
    (T.osome (some (⟨A, 0, none⟩ : Addr)) fun (a : Addr) => T.loads (a.add 1) [.int .i64] fun (n : Int) => T.osome (some (⟨A, 0, none⟩ : Addr)) fun (b : Addr) => T.stores (b.add 1) [.int .i64 (IntKind.wrap .i64 (n + (1 : Int)))] k) L K h := by
  obtain ⟨i, ⟨p, l, c, bA, v, hp, hi, hu⟩, ht⟩ := b
  have hil : i < us.length := by
    rcases Nat.lt_or_ge i us.length with h | h
    · exact h
    · rw [List.drop_eq_nil_of_le h] at ht; cases ht
  refine osome_mk rfl ?_
  rw [add_box]
  refine loads_box bA ((i : Int), ()) rfl ?_
  dsimp only [flat, unc, unc1, List.nil_append, List.cons_append]
  refine osome_mk rfl ?_
  rw [add_box]
  refine stores_of bA rfl (by simp) ?_
  intro h1 b1 k1 z1
  have b1 : Box h1 A 123 [.slice p l c, .int .i64 (IntKind.wrap .i64 ((i : Int) + 1)), .int .i64 d, .int .i64 (e : Int)] := b1
  rw [show IntKind.wrap .i64 ((i : Int) + 1) = ((i + 1 : Nat) : Int) by rw [wrap_i64 (by omega) (by omega)]; omega] at b1
  refine hk h1 k1 ⟨i + 1, ⟨p, l, c, b1, v.keep k1 (fun j hj hm => ?_), hp, by omega, hu⟩, ?_⟩
  · rw [List.mem_singleton] at hm
    have := hp _ hj
    omega
  · have := congrArg (List.drop 1) ht
    rw [List.drop_drop] at this
    simpa using this
theorem depth_of {A : Nat} {us ts : List Tok} {d : Int} {e : Nat} {f : Int → Int} {k : T} (b : RQ h A us ts d e) (hk : ∀ h', Ch [A] h h' → RQ h' A us ts (f d) e → k L K h') :
    (T.osome (some (⟨A, 0, none⟩ : Addr)) fun (a : Addr) => T.loads (a.add 2) [.int .i64] fun (n : Int) => T.osome (some (⟨A, 0, none⟩ : Addr)) fun (b : Addr) => T.stores (b.add 2) [.int .i64 (f n)] k) L K h := by
  obtain ⟨i, ⟨p, l, c, bA, v, hp, hi, hu⟩, ht⟩ := b
  refine osome_mk rfl ?_
  rw [add_box]
  refine loads_box bA (d, ()) rfl ?_
  dsimp only [flat, unc, unc1, List.nil_append, List.cons_append]
  refine osome_mk rfl ?_
  rw [add_box]
  refine stores_of bA rfl (by simp) ?_
  intro h1 b1 k1 z1
  have b1 : Box h1 A 123 [.slice p l c, .int .i64 (i : Int), .int .i64 (f d), .int .i64 (e : Int)] := b1
  refine hk h1 k1 ⟨i, ⟨p, l, c, b1, v.keep k1 (fun j hj hm => ?_), hp, hi, hu⟩, ht⟩
  rw [List.mem_singleton] at hm
  have := hp _ hj
  omega
theorem refuseR_of {A : Nat} {us ts : List Tok} {d : Int} {e w : Nat} {k : T} (b : RQ h A us ts d e) (hk : ∀ h', Ch [A] h h' → RQ h' A us ts d (if e = 0 then w else e) → k L K h') :
    T.call Tryd.prog 84 [.pointer (some ⟨A, 0, none⟩), .int .i64 (w : Int)] true [] k L K h := by
  obtain ⟨i, b, ht⟩ := b
  refine call_of (refuse84_hc b w) ?_
  rintro _ h1 ⟨rfl, k1, z1, b1⟩
  exact ⟨(), rfl, hk h1 k1 ⟨i, b1, ht⟩⟩
theorem isR_of {A : Nat} {us ts : List Tok} {d : Int} {e : Nat} {c : UInt8} {k : Bool → T} (b : RQ h A us ts d e) (hk : k (signB e ts c) L K h) : T.call Tryd.prog 97 [.pointer (some ⟨A, 0, none⟩), .string ⟨#[c]⟩] false [(false, [.bool])] k L K h := by
  obtain ⟨i, b, ht⟩ := b
  subst ht
  exact call_bool (is97_hc b c) hk
/-- A Lin that lies in a block goes out. -/
theorem outR {h hx : Hp} {A : Nat} {us ts' : List Tok} {n : Nat} {d d' : Int} {res : PRes} {g1 g4 b : Nat} {x : Lin} {p : Option Addr} {l c e' : Nat} {L : Lp} (kx : Ch [A] h hx) (hg1 : h.size ≤ g1) (hAg : A < g1) (b1 : Box hx g1 69 [.slice none 0 0, .int .u32 0]) (b4 : Box hx g4 69 [.slice p l c, .int .u32 (x.num : Int)])
    (s : SL hx b 80 2 p l c (x.terms.map encT)) (hb : g1 < b) (gx : Good x) (rq : RQ hx A us ts' d' e') (post : PostR n d x ts' d' e' res) :
    (T.loads ⟨g4, 0, none⟩ [.slice 80, .int .u32] fun (p : Option Addr) (l c : Nat) (n : Int) => T.stores ⟨g1, 0, none⟩ [.slice p l c, .int .u32 n] <| T.loads ⟨g1, 0, none⟩ [.slice 80, .int .u32] fun (p : Option Addr) (l c : Nat) (n : Int) => T.ret (.agg #[.slice p l c, .int .u32 n])) L (ResR h A us n d res) hx := by
  refine loads_box b4 ((p, l, c), (x.num : Int), ()) rfl ?_
  dsimp only [flat, unc, unc1, List.nil_append, List.cons_append]
  refine stores_of b1 rfl (by simp) ?_
  intro h7 b7 k7 z7
  have b7 : Box h7 g1 69 [.slice p l c, .int .u32 (x.num : Int)] := b7
  refine loads_box b7 ((p, l, c), (x.num : Int), ()) rfl ?_
  exact ⟨Ch.trans kx k7 (fun j hj hl => by simp at hj; omega), x, p, l, c, ts', d', e', rfl, (s.keep' k7 (fun j hj => by have := (s.blk hj).1; simp; omega)).mono (by omega), gx, rq.keep k7 (by simp; omega), post⟩
/-- A literal of one term. -/
theorem litT_of {k : Option Addr → Nat → Nat → T} {s : ByteArray} {n : Nat} {v : Int} (hv : v = (n : Int)) (hk : ∀ h' p' l' c', SL h' h.size 80 2 p' l' c' ([(s, n)].map encT) → Ext h h' → h'.size = h.size + 1 → k p' l' c' L K h') :
    T.sem Tryd.prog (Instr.buildSlice 67 1 #[(0, .agg #[.string s, .int .u32 v])]) false [(false, [.slice 0])] k L K h := by
  subst hv
  refine lit_of (cells := [.string s, .int .u32 n]) und67 termZ (by decide) (by decide) (by kernel_rfl) ?_
  intro h2 b2 e2 z2
  exact hk h2 _ _ _ ⟨rfl, by simp [encT], h.size, [], [], rfl, by omega, by omega, b2, rfl⟩ e2 z2
end rules
theorem isS_lit {t : Tok} : (decide (t.kind = 3) && (ByteArray.toList t.text == [({ toBitVec := 40#8 } : UInt8)])) = isS t 40 := by
  unfold isS
  rw [ByteArray.toList_eq]
  by_cases h : t.kind = 3
  · simp [h]
  · simp [h]
/-- The state in the midst of a factor: what was read, its last token not yet left. -/
def FacQ (h : Hp) (A g1 g4 : Nat) (us : List Tok) (d : Int) (res : PRes) (h' : Hp) : Prop :=
  Ch [A] h h' ∧ Box h' g1 69 [.slice none 0 0, .int .u32 0] ∧ ∃ x p l c t r, Box h' g4 69 [.slice p l c, .int .u32 (x.num : Int)] ∧ SL h' (g1 + 1) 80 2 p l c (x.terms.map encT) ∧ Good x ∧ RQ h' A us (t :: r) d 0 ∧ res = .ok (x, r)
theorem fac111_hc {A : Nat} {us : List Tok} {o : Option (List Tok → PRes)} {d : Nat} (hz : ∀ t, t ∈ us → t.text.size ≤ 9223372036854775807) (hd : d ≤ 32)
    (ho : match o with
      | none => d = 32
      | some f => d < 32 ∧ RdC 83 A us (d + 1) f)
    (hfine : ∀ f, o = some f → ∀ ts, Wf ts → Fine ts (f ts)) : RdC 111 A us d (facG o) := by
  intro h ts rq w hts
  refine hcr_of (args := [ptr A]) mixed Tryd.func111 (by kernel_rfl) (t_spandrelref4_reader__factor_eq (some ⟨A, 0, none⟩)) ?_
  unfold t_spandrelref4_reader__factor
  have hA := rq.lt
  refine newB ?_
  intro h1 b1 e1 z1
  refine loop_of (cs := [(false, [.bool])]) (fun y m h' => ∃ (b : Bool) (vs : List Tok), y.1 = b ∧ facG o ts = facN o b vs ∧ Ch [A] h1 h' ∧ RQ h' A us vs d 0 ∧ vs <:+ ts ∧ m = vs.length) (false, ()) ts.length rfl
    ⟨false, ts, rfl, rfl, Ch.refl _ _, rq.keep e1 (by simp), List.suffix_refl _, rfl⟩ ?_
  rintro ⟨b, ⟨⟩⟩ m h2 ⟨b', vs, hb', hg, k2, rq2, hsuf, rfl⟩
  simp only at hb'
  subst hb'
  dsimp only [flat, unc, unc1, List.nil_append, List.cons_append]
  have hz2 := k2.size
  have b12 := b1.keep k2 (by simp; omega)
  have k02 : Ch [A] h h2 := Ch.trans (e1.mono (by simp)) k2 (fun j hj _ => hj)
  have hus := hsuf.length_le
  have wus := w.suffix hsuf
  refine isR_of rq2 ?_
  refine cond_mk (fun g1 => ?_) (fun g1 => ?_)
  · cases vs with
    | nil => cases g1
    | cons t r =>
      have g1 : isS t 45 = true := g1
      refine step_of rq2 ?_
      intro h3 k3 rq3
      refine again_mk (cs := [(false, [.bool])]) (!b, ()) r.length rfl (by simp) rfl ⟨!b, r, rfl, ?_, Ch.trans k2 k3 (fun j hj _ => hj), rq3, (List.suffix_cons _ _).trans hsuf, rfl⟩
      rw [hg]
      show (if isS t 45 = true then facN o (!b) r else facS o b (t :: r)) = _
      rw [if_pos g1]
  · have hfs : facG o ts = facS o b vs := by
      rw [hg]
      cases vs with
      | nil => rfl
      | cons t r =>
        have g1 : isS t 45 = false := g1
        show (if isS t 45 = true then facN o (!b) r else facS o b (t :: r)) = _
        rw [if_neg (by rw [g1]; simp)]
    refine newB ?_
    intro h3 b4 e3 z3
    have b13 := b12.keep e3 (by simp)
    have rq3 := rq2.keep e3 (by simp)
    have k03 : Ch [A] h h3 := Ch.trans k02 e3 (by simp)
    have hz03 := k03.size
    refine join_of (cs := [(false, [.bool])]) (fun y h' => y.1 = decide (vs = []) ∧ h3 = h') ?_ ?_
    · obtain ⟨i, ⟨p, l, c, bA, v, hp, hi, hu⟩, ht⟩ := rq3
      refine osome_mk rfl ?_
      rw [add_box]
      refine loads_box bA ((0 : Int), ()) rfl ?_
      dsimp only [flat, unc, unc1, List.nil_append, List.cons_append]
      refine cond_f rfl ?_
      refine osome_mk rfl ?_
      rw [add_box]
      refine loads_box bA ((i : Int), ()) rfl ?_
      dsimp only [flat, unc, unc1, List.nil_append, List.cons_append]
      refine osome_mk rfl ?_
      refine loads_box bA ((p, l, c), ()) rfl ?_
      dsimp only [flat, unc, unc1, List.nil_append, List.cons_append]
      refine meet_mk (cs := [(false, [.bool])]) (decide ((i : Int) ≥ (l : Int)), ()) rfl rfl ⟨?_, rfl⟩
      have hlen := v.len
      have : vs = [] ↔ us.length ≤ i := by rw [ht]; exact List.drop_eq_nil_iff
      show decide ((i : Int) ≥ (l : Int)) = decide (vs = [])
      by_cases hv : vs = []
      · rw [decide_eq_true hv, decide_eq_true (by have := this.1 hv; omega)]
      · rw [decide_eq_false hv, decide_eq_false (by intro hh; exact hv (this.2 (by omega)))]
    · rintro ⟨b5, ⟨⟩⟩ h3' ⟨hb5, rfl⟩
      simp only at hb5
      subst hb5
      dsimp only [flat, unc, unc1, List.nil_append, List.cons_append]
      refine cond_mk (fun g2 => ?_) (fun g2 => ?_)
      · have g2 : vs = [] := of_decide_eq_true g2
        subst g2
        refine refuseR_of (w := 20) rq3 ?_
        intro h4 k4 rq4
        rw [hfs]
        refine outR (b := h.size + 1) (x := linZ) (Ch.trans k03 k4 (fun j hj _ => hj)) (Nat.le_refl _) hA (b13.keep k4 (by simp; omega)) (b4.keep k4 (by simp; omega)) (SL.nil _ _ _ _) (by omega) Good.z rq4 ?_
        exact ⟨rfl, by simp, by simp [linZ]⟩
      · have g2 : vs ≠ [] := of_decide_eq_false g2
        obtain ⟨t, r, rfl⟩ := List.exists_cons_of_ne_nil g2
        have wt := wus t (List.mem_cons_self ..)
        simp only [List.length_cons] at hus
        have fH : ∀ q, (if t.kind = 1 then if (regL t.text.data.toList).2.2 = true then (.error 20 : PRes) else .ok (⟨[(t.text, 1)], 0⟩, r)
            else if t.kind = 2 then .ok (⟨[], t.num⟩, r)
            else if isS t 40 = true then match o with
              | none => .error 21
              | some f => match f r with
                | .error e => .error e
                | .ok (x, r') => match r' with
                  | [] => .error 20
                  | t' :: r'' => if isS t' 41 = true then .ok (x, r'') else .error 20
            else .error 20) = q → facH o (t :: r) = q := fun q hq => hq
        have hfe : ∀ e, facH o (t :: r) = .error e → facS o b (t :: r) = .error e := fun e he => by unfold facS; rw [he]
        have rq3' := rq3
        obtain ⟨i, ⟨p, l, c, bA, v, hp, hi, hu⟩, ht⟩ := rq3
        have hil : i < us.length := by
          rcases Nat.lt_or_ge i us.length with h | h
          · exact h
          · rw [List.drop_eq_nil_of_le h] at ht; cases ht
        have hlen := v.len
        have htu : us[i] = t := by
          rw [List.drop_eq_getElem_cons hil] at ht
          exact (List.cons.inj ht).1.symm
        obtain ⟨a, rfl, hc⟩ := v.cells i hil
        rw [htu] at hc
        refine osome_mk rfl (loads_box bA ((some a, l, c), ()) rfl ?_)
        dsimp only [flat, unc, unc1, List.nil_append, List.cons_append]
        refine osome_mk rfl ?_
        rw [add_box]
        refine loads_box bA ((i : Int), ()) rfl ?_
        dsimp only [flat, unc, unc1, List.nil_append, List.cons_append]
        refine need_of ⟨by omega, by omega⟩ (osome_mk rfl ?_)
        rw [show Int.toNat (i : Int) = i by omega]
        refine loads_of ((t.kind : Int), t.text, (t.num : Int), (t.at_ : Int), ()) hc ?_
        dsimp only [flat, unc, unc1, List.nil_append, List.cons_append]
        refine newB ?_
        intro h5 b5 e5 z5
        have hblk : a.block < A := hp _ (by simp [blkOf])
        have bA5 := bA.keep e5 (by simp)
        refine ⟨⟨cellsAt_keep e5 (by simp) _ _ hc, bA5.cells _ rfl, bA5.cells _ rfl, trivial⟩, ?_⟩
        refine stores_of b5 rfl (by simp) ?_
        intro h6 bt6 k6 z6
        have bt6 : Box h6 h3.size 105 (enc t) := bt6
        have e36 : Ext h3 h6 := Ch.trans e5 k6 (fun j hj hl => by simp at hj; omega)
        have k06 : Ch [A] h h6 := Ch.trans k03 e36 (by simp)
        have b16 := b13.keep e36 (by simp)
        have b46 := b4.keep e36 (by simp)
        have rq6 := rq3'.keep e36 (by simp)
        have hb4 := b4.lt
        have hz23 := k02.size
        refine join_of (cs := []) (fun y h' => FacQ h A h.size h2.size us d (facH o (t :: r)) h') ?_ ?_
        · refine loads_box bt6 ((t.kind : Int), ()) rfl ?_
          dsimp only [flat, unc, unc1, List.nil_append, List.cons_append]
          refine cond_mk (fun g5 => ?_) (fun g5 => ?_)
          · have g5 : t.kind = 2 := by have : (t.kind : Int) = 2 := by simpa using g5
                                       omega
            rw [add_box]
            refine loads_box bt6 ((t.num : Int), ()) rfl ?_
            dsimp only [flat, unc, unc1, List.nil_append, List.cons_append]
            rw [add_box]
            refine stores_of b46 rfl (by simp) ?_
            intro h7 b7 k7 z7
            have b7 : Box h7 h2.size 69 [.slice none 0 0, .int .u32 (t.num : Int)] := b7
            exact meet_mk (cs := []) () rfl rfl ⟨Ch.trans k06 k7 (fun j hj hl => by simp at hj; omega), b16.keep k7 (by simp; omega), ⟨[], t.num⟩, none, 0, 0, t, r, b7, SL.nil _ _ _ _, ⟨Nf.nil, by simp, wt.num⟩, rq6.keep k7 (by simp; omega), fH _ (by rw [if_neg (by omega), if_pos g5])⟩
          · have g5 : ¬ t.kind = 2 := by have : ¬ (t.kind : Int) = 2 := by simpa using g5
                                         omega
            refine join_of (cs := [(false, [.bool])]) (fun y h' => y.1 = (decide (t.kind = 1) && legalL t.text.data.toList) ∧ h6 = h') ?_ ?_
            · refine loads_box bt6 ((t.kind : Int), ()) rfl ?_
              dsimp only [flat, unc, unc1, List.nil_append, List.cons_append]
              refine cond_mk (fun g3 => ?_) (fun g3 => ?_)
              · have g3 : t.kind = 1 := by have : (t.kind : Int) = 1 := by simpa using g3
                                           omega
                rw [add_box]
                refine loads_box bt6 (t.text, ()) rfl ?_
                dsimp only [flat, unc, unc1, List.nil_append, List.cons_append]
                refine call_bool (legal2_hc t.text h6 (hz t (by rw [← htu]; exact List.getElem_mem hil))) ?_
                refine meet_mk (cs := [(false, [.bool])]) (legalL t.text.data.toList, ()) rfl rfl ⟨?_, rfl⟩
                rw [decide_eq_true g3]
                rfl
              · have g3 : ¬ t.kind = 1 := by have : ¬ (t.kind : Int) = 1 := by simpa using g3
                                             omega
                refine meet_mk (cs := [(false, [.bool])]) (false, ()) rfl rfl ⟨?_, rfl⟩
                rw [decide_eq_false g3]
                rfl
            · rintro ⟨b7, ⟨⟩⟩ h6' ⟨hb7, rfl⟩
              simp only at hb7
              subst hb7
              dsimp only [flat, unc, unc1, List.nil_append, List.cons_append]
              refine cond_mk (fun g3 => ?_) (fun g3 => ?_)
              · simp only [Bool.and_eq_true, decide_eq_true_eq] at g3
                obtain ⟨hn0, hlg⟩ := wt.name g3.1
                have hreg : (regL t.text.data.toList).2.2 = false := by rw [g3.2] at hlg; simpa using hlg.symm
                rw [add_box]
                refine loads_box bt6 (t.text, ()) rfl ?_
                dsimp only [flat, unc, unc1, List.nil_append, List.cons_append]
                refine litT_of (n := 1) rfl ?_
                intro h7 p' l' c' s7 e7 z7
                refine stores_of (b46.keep e7 (by simp)) rfl (by simp) ?_
                intro h8 b8 k8 z8
                have b8 : Box h8 h2.size 69 [.slice p' l' c', .int .u32 0] := b8
                have hz6 := e36.size
                have k68 : Ch [h2.size] h6 h8 := Ch.trans (e7.mono (by simp)) k8 (fun j hj _ => hj)
                refine meet_mk (cs := []) () rfl rfl ⟨Ch.trans k06 k68 (fun j hj hl => by simp at hj; omega), b16.keep k68 (by simp; omega), ⟨[(t.text, 1)], 0⟩, p', l', c', t, r, b8, ?_, good_named g3.2, rq6.keep k68 (by simp; omega), fH _ (by rw [if_pos g3.1, if_neg (by rw [hreg]; simp)])⟩
                exact (s7.keep' k8 (fun j hj => by have := (s7.blk hj).1; simp; omega)).mono (by omega)
              · simp only [Bool.and_eq_false_iff, decide_eq_false_iff_not] at g3
                refine join_of (cs := [(false, [.bool])]) (fun y h' => y.1 = isS t 40 ∧ h6 = h') ?_ ?_
                · refine loads_box bt6 ((t.kind : Int), ()) rfl ?_
                  dsimp only [flat, unc, unc1, List.nil_append, List.cons_append]
                  refine cond_mk (fun g6 => ?_) (fun g6 => ?_)
                  · have g6 : t.kind = 3 := by have : (t.kind : Int) = 3 := by simpa using g6
                                               omega
                    rw [add_box]
                    refine loads_box bt6 (t.text, ()) rfl ?_
                    dsimp only [flat, unc, unc1, List.nil_append, List.cons_append]
                    refine meet_mk (cs := [(false, [.bool])]) ((ByteArray.toList t.text == [({ toBitVec := 40#8 } : UInt8)]), ()) rfl rfl ⟨?_, rfl⟩
                    rw [← isS_lit, decide_eq_true g6]
                    rfl
                  · have g6 : ¬ t.kind = 3 := by have : ¬ (t.kind : Int) = 3 := by simpa using g6
                                                 omega
                    refine meet_mk (cs := [(false, [.bool])]) (false, ()) rfl rfl ⟨?_, rfl⟩
                    rw [← isS_lit, decide_eq_false g6]
                    rfl
                · rintro ⟨b8, ⟨⟩⟩ h6' ⟨hb8, rfl⟩
                  simp only at hb8
                  subst hb8
                  dsimp only [flat, unc, unc1, List.nil_append, List.cons_append]
                  have hz6 := e36.size
                  refine cond_mk (fun g6 => ?_) (fun g6 => ?_)
                  · have hk3 := isS_kind g6
                    have hk1 : ¬ t.kind = 1 := by omega
                    obtain ⟨i6, ⟨p6, l6, c6, bA6, v6, hp6, hi6, hu6⟩, ht6⟩ := rq6
                    have rq6 : RQ h6 A us (t :: r) d 0 := ⟨i6, ⟨p6, l6, c6, bA6, v6, hp6, hi6, hu6⟩, ht6⟩
                    refine osome_mk rfl ?_
                    rw [add_box]
                    refine loads_box bA6 ((d : Int), ()) rfl ?_
                    dsimp only [flat, unc, unc1, List.nil_append, List.cons_append]
                    refine cond_mk (fun g7 => ?_) (fun g7 => ?_)
                    · have g7 : (d : Int) = 32 := by simpa using g7
                      refine refuseR_of (w := 21) rq6 ?_
                      intro h7 k7 rq7
                      cases o with
                      | some f => simp only at ho; omega
                      | none =>
                        rw [hfs]
                        refine outR (b := h.size + 1) (x := linZ) (Ch.trans k06 k7 (fun j hj _ => hj)) (Nat.le_refl _) hA (b16.keep k7 (by simp; omega)) (b46.keep k7 (by simp; omega)) (SL.nil _ _ _ _) (by omega) Good.z rq7 ?_
                        rw [hfe 21 (fH _ (by rw [if_neg hk1, if_neg g5, if_pos g6]))]
                        exact ⟨rfl, by simp, by simp [linZ]⟩
                    · have g7 : ¬ (d : Int) = 32 := by simpa using g7
                      cases o with
                      | none => simp only at ho; omega
                      | some f =>
                        simp only at ho
                        obtain ⟨hd', hs⟩ := ho
                        refine depth_of (f := fun n => IntKind.wrap .i64 (n + 1)) rq6 ?_
                        intro h7 k7 rq7
                        rw [wrap_small (by omega) (by omega)] at rq7
                        refine step_of rq7 ?_
                        intro h8 k8 rq8
                        have k68 : Ch [A] h6 h8 := Ch.trans k7 k8 (fun j hj _ => hj)
                        have k08 : Ch [A] h h8 := Ch.trans k06 k68 (fun j hj _ => hj)
                        have b18 := b16.keep k68 (by simp; omega)
                        have b48 := b46.keep k68 (by simp; omega)
                        have wr : Wf r := wus.tail
                        have hff := hfine f rfl r wr
                        have hrl : r.length + 1 ≤ ts.length := hus
                        refine call_of (hs h8 r rq8 wr (by omega)) ?_
                        rintro _ h9 ⟨k9, x, p', l', c', ts', d', e', rfl, s9, gx, rq9, post⟩
                        refine ⟨((p', l', c'), (x.num : Int), ()), rfl, ?_⟩
                        dsimp only [flat, unc, unc1, List.nil_append, List.cons_append]
                        have b19 := b18.keep k9 (by simp; omega)
                        have hz8 := k08.size
                        have hz68 := k68.size
                        refine stores_of (b48.keep k9 (by simp; omega)) rfl (by simp) ?_
                        intro h10 b10 k10 z10
                        have b10 : Box h10 h2.size 69 [.slice p' l' c', .int .u32 (x.num : Int)] := b10
                        have b110 := b19.keep k10 (by simp; omega)
                        have rq10 := rq9.keep k10 (by simp; omega)
                        have s10 : SL h10 (h.size + 1) 80 2 p' l' c' (x.terms.map encT) := (s9.keep' k10 (fun j hj => by have := (s9.blk hj).1; simp; omega)).mono (by omega)
                        have k010 : Ch [A] h h10 := Ch.trans (Ch.trans k08 k9 (fun j hj _ => hj)) k10 (fun j hj hl => by simp at hj; omega)
                        refine depth_of (f := fun n => IntKind.wrap .i64 (n - 1)) rq10 ?_
                        intro h11 k11 rq11
                        have b111 := b110.keep k11 (by simp; omega)
                        have b11 := b10.keep k11 (by simp; omega)
                        have s11 := s10.keep' k11 (fun j hj => by have := (s10.blk hj).1; simp; omega)
                        have k011 : Ch [A] h h11 := Ch.trans k010 k11 (fun j hj _ => hj)
                        refine isR_of rq11 ?_
                        refine cond_mk (fun g8 => ?_) (fun g8 => ?_)
                        · have g8 : signB e' ts' 41 = false := by simpa using g8
                          refine refuseR_of (w := 20) rq11 ?_
                          intro h12 k12 rq12
                          rw [hfs]
                          revert post hff
                          cases hfr : f r with
                          | error e =>
                            rintro hff ⟨rfl, he0, hxl⟩
                            refine outR (Ch.trans k011 k12 (fun j hj _ => hj)) (Nat.le_refl _) hA (b111.keep k12 (by simp; omega)) (b11.keep k12 (by simp; omega)) (s11.keep' k12 (fun j hj => by have := (s11.blk hj).1; simp; omega)) (by omega) gx rq12 ?_
                            rw [hfe e' (fH _ (by rw [if_neg hk1, if_neg g5, if_pos g6]; simp only [hfr]))]
                            exact ⟨by rw [if_neg he0], he0, by omega⟩
                          | ok z =>
                            obtain ⟨y, r'⟩ := z
                            rintro ⟨_, _, _, hxl⟩ ⟨rfl, rfl, rfl, rfl⟩
                            refine outR (Ch.trans k011 k12 (fun j hj _ => hj)) (Nat.le_refl _) hA (b111.keep k12 (by simp; omega)) (b11.keep k12 (by simp; omega)) (s11.keep' k12 (fun j hj => by have := (s11.blk hj).1; simp; omega)) (by omega) gx rq12 ?_
                            rw [hfe 20 (fH _ ?_)]
                            · exact ⟨rfl, by omega, by omega⟩
                            · rw [if_neg hk1, if_neg g5, if_pos g6]
                              simp only [hfr]
                              cases ts' with
                              | nil => rfl
                              | cons t' r'' =>
                                have g8 : isS t' 41 = false := g8
                                simp only
                                rw [if_neg (by rw [g8]; simp)]
                        · have g8 : signB e' ts' 41 = true := by simpa using g8
                          have he0 : e' = 0 := by
                            unfold signB at g8
                            simp only [Bool.and_eq_true, decide_eq_true_eq] at g8
                            exact g8.1
                          revert post hff
                          cases hfr : f r with
                          | error e =>
                            rintro hff ⟨rfl, he, hxl⟩
                            exact absurd he0 he
                          | ok z =>
                            obtain ⟨y, r'⟩ := z
                            rintro ⟨_, _, _, hxl⟩ ⟨_, rfl, rfl, rfl⟩
                            subst he0
                            cases ts' with
                            | nil => cases g8
                            | cons t' r'' =>
                              have g8 : isS t' 41 = true := g8
                              refine meet_mk (cs := []) () rfl rfl ⟨k011, b111, x, p', l', c', t', r'', b11, s11, gx, ?_, fH (.ok (x, r'')) (by rw [if_neg hk1, if_neg g5, if_pos g6]; simp only [hfr]; rw [if_pos g8])⟩
                              have : IntKind.wrap .i64 (((d + 1 : Nat) : Int) - 1) = (d : Int) := by rw [wrap_small (by omega) (by omega)]; omega
                              rw [← this]
                              exact rq11
                  · have hE : facH o (t :: r) = .error 20 := by
                      refine fH _ ?_
                      by_cases hk1 : t.kind = 1
                      · rw [if_pos hk1]
                        obtain ⟨hn0, hlg⟩ := wt.name hk1
                        have hl : legalL t.text.data.toList = false := by
                          rcases g3 with g3 | g3
                          · exact absurd hk1 g3
                          · exact g3
                        rw [hl] at hlg
                        rw [if_pos (by simpa using hlg.symm)]
                      · rw [if_neg hk1, if_neg g5, if_neg (by rw [g6]; simp)]
                    refine refuseR_of (w := 20) rq6 ?_
                    intro h7 k7 rq7
                    rw [hfs]
                    refine outR (b := h.size + 1) (x := linZ) (Ch.trans k06 k7 (fun j hj _ => hj)) (Nat.le_refl _) hA (b16.keep k7 (by simp; omega)) (b46.keep k7 (by simp; omega)) (SL.nil _ _ _ _) (by omega) Good.z rq7 ?_
                    rw [hfe 20 hE]
                    exact ⟨rfl, by simp, by simp [linZ]⟩
        · rintro ⟨⟩ h7 ⟨k7, b17, x, p', l', c', t', r'', b47, s7, gx, rq7, hres⟩
          dsimp only [flat, unc, unc1, List.nil_append, List.cons_append]
          have hfx : facS o b (t :: r) = .ok (negB b x, r'') := by unfold facS; rw [hres]
          have hxl : x.terms.length ≤ ts.length := by
            have hf := facH_fine hfine wus
            rw [hres] at hf
            obtain ⟨_, _, _, hl⟩ := hf
            simp only [List.length_cons] at hl
            omega
          refine step_of rq7 ?_
          intro h8 k8 rq8
          have k08 : Ch [A] h h8 := Ch.trans k7 k8 (fun j hj _ => hj)
          have hz8 := k08.size
          have b18 := b17.keep k8 (by simp; omega)
          have b48 := b47.keep k8 (by simp; omega)
          have s8 := s7.keep' k8 (fun j hj => by have := (s7.blk hj).1; simp; omega)
          rw [hfs, hfx]
          refine cond_mk (fun g9 => ?_) (fun g9 => ?_)
          · refine loads_box b48 ((p', l', c'), (x.num : Int), ()) rfl ?_
            dsimp only [flat, unc, unc1, List.nil_append, List.cons_append]
            refine call_of (times98_hc s8.vwT (by omega) s8.vwT' 4294967295) ?_
            rintro _ h9 ⟨e9, q, m, cq, rfl, s9⟩
            refine ⟨((q, m, cq), ((linT x 4294967295).num : Int), ()), rfl, ?_⟩
            dsimp only [flat, unc, unc1, List.nil_append, List.cons_append]
            have hb48 := b48.lt
            refine stores_of (b48.keep e9 (by simp)) rfl (by simp) ?_
            intro h10 b10 k10 z10
            have b10 : Box h10 h2.size 69 [.slice q m cq, .int .u32 ((linT x 4294967295).num : Int)] := b10
            have k810 : Ch [h2.size] h8 h10 := Ch.trans (e9.mono (by simp)) k10 (fun j hj _ => hj)
            refine outR (x := linT x 4294967295) (Ch.trans k08 k810 (fun j hj hl => by simp at hj; omega)) (Nat.le_refl _) hA (b18.keep k810 (by simp; omega)) b10 (s9.keep' k10 (fun j hj => by have := (s9.blk hj).1; simp; omega)) (by omega) (gx.T _) (rq8.keep k810 (by simp; omega)) ?_
            exact ⟨rfl, by unfold negB; rw [if_pos g9], rfl, rfl⟩
          · refine outR k08 (Nat.le_refl _) hA b18 b48 s8 (by omega) gx rq8 ?_
            exact ⟨rfl, by unfold negB; rw [if_neg (by rw [g9]; simp)], rfl, rfl⟩
end Go.Sx

set_option linter.unusedVariables false
set_option linter.unusedSimpArgs false
set_option maxRecDepth 100000
namespace Go.Sx
open Go.Proofs
theorem ltB (a b : ByteArray) : Op.bytesLess (ByteArray.toList a) (ByteArray.toList b) = decide (ltN a b) := by
  rw [ByteArray.toList_eq, ByteArray.toList_eq, Proofs.bytesLess_eq]
  rfl
/-- The state at the loop's head. -/
def AddI (h : Hp) (g7 : Nat) (x y : Tms) (N : Int) (i j : Nat) (h' : Hp) : Prop :=
  i ≤ x.length ∧ j ≤ y.length ∧ Ch [g7] h h' ∧ ∃ O p l c f, Box h' g7 69 [.slice p l c, .int .u32 N] ∧ SL h' h.size 80 2 p l c (O.map encT) ∧ addM x y = O ++ addF f (x.drop i) (y.drop j) ∧ (x.length - i) + (y.length - j) ≤ f ∧ O.length ≤ i + j
theorem addF_nil (f : Nat) : addF f [] [] = [] := by cases f <;> rfl
theorem addF_x {f : Nat} {p : ByteArray × Nat} {x y : Tms} (h : y = [] ∨ ∃ q r, y = q :: r ∧ ltN p.1 q.1) : addF (f + 1) (p :: x) y = p :: addF f x y := by
  rcases h with rfl | ⟨q, r, rfl, h⟩
  · rfl
  · show (if ltN p.1 q.1 then _ else _) = _
    rw [if_pos h]
theorem addF_y {f : Nat} {q : ByteArray × Nat} {x y : Tms} (h : x = [] ∨ ∃ p r, x = p :: r ∧ ltN q.1 p.1) : addF (f + 1) x (q :: y) = q :: addF f x y := by
  rcases h with rfl | ⟨p, r, rfl, h⟩
  · rfl
  · show (if ltN p.1 q.1 then _ else if ltN q.1 p.1 then _ else _) = _
    rw [if_neg (ltN_asymm h), if_pos h]
theorem addF_xy {f : Nat} {p q : ByteArray × Nat} {x y : Tms} (h1 : ¬ ltN p.1 q.1) (h2 : ¬ ltN q.1 p.1) : addF (f + 1) (p :: x) (q :: y) = if (p.2 + q.2) % 4294967296 = 0 then addF f x y else (p.1, (p.2 + q.2) % 4294967296) :: addF f x y := by
  show (if ltN p.1 q.1 then _ else if ltN q.1 p.1 then _ else _) = _
  rw [if_neg h1, if_neg h2]
/-- Is the first list's head the next? -/
def goX : Tms → Tms → Bool
  | [], _ => false
  | _ :: _, [] => true
  | p :: _, q :: _ => decide (ltN p.1 q.1)
theorem goX_true {x y : Tms} (h : goX x y = true) : ∃ p r, x = p :: r ∧ (y = [] ∨ ∃ q s, y = q :: s ∧ ltN p.1 q.1) := by
  cases x with
  | nil => cases h
  | cons p r =>
    cases y with
    | nil => exact ⟨p, r, rfl, .inl rfl⟩
    | cons q s => exact ⟨p, r, rfl, .inr ⟨q, s, rfl, of_decide_eq_true h⟩⟩
theorem goX_false {x y : Tms} (h : goX x y = false) : x = [] ∨ ∃ p r q s, x = p :: r ∧ y = q :: s ∧ ¬ ltN p.1 q.1 := by
  cases x with
  | nil => exact .inl rfl
  | cons p r =>
    cases y with
    | nil => cases h
    | cons q s => exact .inr ⟨p, r, q, s, rfl, rfl, of_decide_eq_false h⟩
theorem drop_lt {α : Type} {l r : List α} {p : α} {i : Nat} (h : l.drop i = p :: r) : i < l.length := by
  rcases Nat.lt_or_ge i l.length with h1 | h1
  · exact h1
  · rw [List.drop_eq_nil_of_le h1] at h; cases h
theorem add99_hc {h : Hp} {p q : Option Addr} {l c m d : Nat} {x y : Lin} (v : VwT h p l x.terms) (u : VwT h q m y.terms) (hp : ∀ i, i ∈ blkOf p → i < h.size) (hq : ∀ i, i ∈ blkOf q → i < h.size)
    (hl : x.terms.length + y.terms.length ≤ 2 ^ 40) :
    HC Tryd.prog 99 #[linV p l c x, linV q m d y] h fun w h' => Ext h h' ∧ ∃ p' l' c', w = linV p' l' c' (linA x y) ∧ SL h' h.size 80 2 p' l' c' ((linA x y).terms.map encT) := by
  refine hcr_of (args := [.agg #[.slice p l c, .int .u32 x.num], .agg #[.slice q m d, .int .u32 y.num]]) mixed Tryd.func99 (by kernel_rfl) (t_spandrelref4_Add_eq p l c x.num q m d y.num) ?_
  unfold t_spandrelref4_Add
  have hll := v.len
  have hmm := u.len
  refine newB ?_
  intro h1 b1 e1 z1
  refine newB ?_
  intro h2 b2 e2 z2
  refine newB ?_
  intro h3 b3 e3 z3
  have b1 := (b1.keep e2 (by simp)).keep e3 (by simp)
  have b2 := b2.keep e3 (by simp)
  rw [add_box, add_box]
  refine loads_box b1 ((x.num : Int), ()) rfl ?_
  dsimp only [flat, unc, unc1, List.nil_append, List.cons_append]
  refine loads_box b2 ((y.num : Int), ()) rfl ?_
  dsimp only [flat, unc, unc1, List.nil_append, List.cons_append]
  refine newB ?_
  intro h4 b4 e4 z4
  refine stores_of b4 rfl (by simp) ?_
  intro h5 b5 k5 z5
  rw [u32_add] at b5
  have b5 : Box h5 h3.size 69 [.slice none 0 0, .int .u32 (((x.num + y.num) % 4294967296 : Nat) : Int)] := b5
  have e35 : Ext h3 h5 := Ch.trans e4 k5 (fun j hj hl => by simp at hj; omega)
  have b1 := b1.keep e35 (by simp)
  have b2 := b2.keep e35 (by simp)
  have b3 := b3.keep e35 (by simp)
  have e05 := ((e1.trans e2).trans e3).trans e35
  have hz5 := e05.size
  refine loop_of (cs := [(false, [.int .i64]), (false, [.int .i64])]) (fun z w h' => ∃ i j : Nat, z.1 = (i : Int) ∧ z.2.1 = (j : Int) ∧ w = (x.terms.length - i) + (y.terms.length - j) ∧ AddI h5 h3.size x.terms y.terms (((x.num + y.num) % 4294967296 : Nat) : Int) i j h')
    ((0 : Int), (0 : Int), ()) (x.terms.length + y.terms.length) rfl ⟨0, 0, rfl, rfl, rfl, Nat.zero_le _, Nat.zero_le _, Ch.refl _ _, [], none, 0, 0, x.terms.length + y.terms.length, b5, SL.nil _ _ _ _, rfl, by omega, by simp⟩ ?_
  rintro ⟨n1, n2, ⟨⟩⟩ w h6 ⟨i, j, hi, hj, rfl, hil, hjl, k6, O, po, lo, co, f, b6, s6, hO, hf, hOl⟩
  simp only at hi hj
  subst hi hj
  dsimp only [flat, unc, unc1, List.nil_append, List.cons_append]
  have hb5 := b5.lt
  have hz6 := k6.size
  have b1 := b1.keep k6 (by simp; omega)
  have b2 := b2.keep k6 (by simp; omega)
  have b3 := b3.keep k6 (by simp; omega)
  have e06 : Ext h h6 := Ch.trans e05 k6 (fun j hj hl => by simp at hj; omega)
  have v6 := v.keep e06 (by simp)
  have u6 := u.keep e06 (by simp)
  have hlo : lo = O.length := by rw [s6.1, List.length_map]
  have hwi : IntKind.wrap .i64 ((i : Int) + 1) = ((i + 1 : Nat) : Int) := by rw [wrap_i64 (by omega) (by omega)]; omega
  have hwj : IntKind.wrap .i64 ((j : Int) + 1) = ((j + 1 : Nat) : Int) := by rw [wrap_i64 (by omega) (by omega)]; omega
  have hsb : ∀ i, i ∈ blkOf po → h5.size ≤ i := fun i hi => (s6.blk hi).1
  have hpm : ∀ (k : Nat) (a : Addr) (w : Tms) (vs : List Value), (some a = p ∨ some a = q) → cellsAt h6 (a.add (k * 2)) 0 vs → ∀ h', Ch (blkOf po) h6 h' → cellsAt h' (a.add (k * 2)) 0 vs := fun k a w vs ha hc h' kk => cellsAt_keep kk (by
    rw [add_block]
    intro hm
    have h1 := hsb _ hm
    rcases ha with ha | ha
    · have := hp a.block (by rw [← ha]; simp [blkOf]); omega
    · have := hq a.block (by rw [← ha]; simp [blkOf]); omega) _ _ hc
  -- what is pushed, and on
  have push : ∀ (t : ByteArray × Nat) (i' j' : Nat) (h7 : Hp) (p7 : Option Addr) (c7 : Nat), i' ≤ x.terms.length → j' ≤ y.terms.length → i + j + 1 ≤ i' + j' → addF f (x.terms.drop i) (y.terms.drop j) = t :: addF (f - 1) (x.terms.drop i') (y.terms.drop j') → (x.terms.length - i') + (y.terms.length - j') ≤ f - 1 →
      SL h7 h5.size 80 2 p7 (lo + 1) c7 (O.map encT ++ [encT t]) → Ch (blkOf po) h6 h7 → ∀ h8, Box h8 h3.size 69 [.slice p7 (lo + 1) c7, .int .u32 (((x.num + y.num) % 4294967296 : Nat) : Int)] → Ch [h3.size] h7 h8 → AddI h5 h3.size x.terms y.terms (((x.num + y.num) % 4294967296 : Nat) : Int) i' j' h8 := by
    intro t i' j' h7 p7 c7 hi' hj' hij hF hf' s7 k7 h8 b8 k8
    refine ⟨hi', hj', Ch.trans (Ch.trans k6 k7 (fun j hj hl => by have := hsb j hj; omega)) k8 (fun j hj _ => hj), O ++ [t], p7, lo + 1, c7, f - 1, b8, ?_, ?_, hf', by simp; omega⟩
    · rw [List.map_append]
      exact s7.keep' k8 (fun j hj => by have := (s7.blk hj).1; simp; omega)
    · rw [hO, hF]; simp
  refine join_of (cs := [(false, [.bool])]) (fun z h' => z.1 = (decide (i < x.terms.length) || decide (j < y.terms.length)) ∧ h6 = h') ?_ ?_
  · refine loads_box b1 ((p, l, c), ()) rfl ?_
    dsimp only [flat, unc, unc1, List.nil_append, List.cons_append]
    refine cond_mk (fun g1 => ?_) (fun g1 => ?_)
    · have g1 := of_decide_eq_true g1
      refine meet_mk (cs := [(false, [.bool])]) (true, ()) rfl rfl ⟨?_, rfl⟩
      rw [decide_eq_true (show i < x.terms.length by omega)]
      rfl
    · have g1 := of_decide_eq_false g1
      refine loads_box b2 ((q, m, d), ()) rfl ?_
      dsimp only [flat, unc, unc1, List.nil_append, List.cons_append]
      refine meet_mk (cs := [(false, [.bool])]) (decide ((j : Int) < (m : Int)), ()) rfl rfl ⟨?_, rfl⟩
      rw [decide_eq_false (show ¬ i < x.terms.length by omega), Bool.false_or]
      show decide ((j : Int) < (m : Int)) = decide (j < y.terms.length)
      rw [decide_eq_decide]
      omega
  rintro ⟨b10, ⟨⟩⟩ h6' ⟨hb10, rfl⟩
  simp only at hb10
  subst hb10
  dsimp only [flat, unc, unc1, List.nil_append, List.cons_append]
  refine cond_mk (fun g1 => ?_) (fun g1 => ?_)
  · simp only [Bool.or_eq_true, decide_eq_true_eq] at g1
    obtain ⟨f', rfl⟩ : ∃ f', f = f' + 1 := ⟨f - 1, by omega⟩
    refine join_of (cs := [(false, [.bool])]) (fun z h' => z.1 = goX (x.terms.drop i) (y.terms.drop j) ∧ h6 = h') ?_ ?_
    · refine loads_box b2 ((q, m, d), ()) rfl ?_
      dsimp only [flat, unc, unc1, List.nil_append, List.cons_append]
      refine cond_mk (fun g2 => ?_) (fun g2 => ?_)
      · have g2 : (j : Int) = (m : Int) := by simpa using g2
        refine meet_mk (cs := [(false, [.bool])]) (true, ()) rfl rfl ⟨?_, rfl⟩
        rw [show y.terms.drop j = [] from List.drop_eq_nil_of_le (by omega), List.drop_eq_getElem_cons (l := x.terms) (i := i) (by omega)]
        rfl
      · have g2 : ¬ (j : Int) = (m : Int) := by simpa using g2
        have hjlt : j < y.terms.length := by omega
        refine loads_box b1 ((p, l, c), ()) rfl ?_
        dsimp only [flat, unc, unc1, List.nil_append, List.cons_append]
        refine cond_mk (fun g3 => ?_) (fun g3 => ?_)
        · have g3 := of_decide_eq_true g3
          have hilt : i < x.terms.length := by omega
          have hdx : x.terms.drop i = x.terms[i] :: x.terms.drop (i + 1) := List.drop_eq_getElem_cons hilt
          have hdy : y.terms.drop j = y.terms[j] :: y.terms.drop (j + 1) := List.drop_eq_getElem_cons hjlt
          obtain ⟨a, ha, hc⟩ := v6.cells i hilt
          obtain ⟨a', ha', hc'⟩ := u6.cells j hjlt
          subst ha ha'
          refine loads_box b1 ((some a, l, c), ()) rfl ?_
          dsimp only [flat, unc, unc1, List.nil_append, List.cons_append]
          refine need_of ⟨by omega, by omega⟩ (osome_mk rfl ?_)
          rw [show Int.toNat (i : Int) = i by omega]
          refine loads_of (x.terms[i].1, ()) (encT_cells hc).1 ?_
          dsimp only [flat, unc, unc1, List.nil_append, List.cons_append]
          refine loads_box b2 ((some a', m, d), ()) rfl ?_
          dsimp only [flat, unc, unc1, List.nil_append, List.cons_append]
          refine need_of ⟨by omega, by omega⟩ (osome_mk rfl ?_)
          rw [show Int.toNat (j : Int) = j by omega]
          refine loads_of (y.terms[j].1, ()) (encT_cells hc').1 ?_
          dsimp only [flat, unc, unc1, List.nil_append, List.cons_append]
          rw [ltB]
          refine meet_mk (cs := [(false, [.bool])]) (decide (ltN x.terms[i].1 y.terms[j].1), ()) rfl rfl ⟨?_, rfl⟩
          rw [hdx, hdy]
          rfl
        · have g3 := of_decide_eq_false g3
          refine meet_mk (cs := [(false, [.bool])]) (false, ()) rfl rfl ⟨?_, rfl⟩
          rw [show x.terms.drop i = [] from List.drop_eq_nil_of_le (by omega)]
          rfl
    rintro ⟨b11, ⟨⟩⟩ h6' ⟨hb11, rfl⟩
    simp only at hb11
    subst hb11
    dsimp only [flat, unc, unc1, List.nil_append, List.cons_append]
    refine cond_mk (fun g2 => ?_) (fun g2 => ?_)
    · obtain ⟨pp, rr, hdd, hor⟩ := goX_true g2
      have hilt := drop_lt hdd
      have hdx : x.terms.drop i = x.terms[i] :: x.terms.drop (i + 1) := List.drop_eq_getElem_cons hilt
      rw [hdx] at hdd
      cases hdd
      have hF : addF (f' + 1) (x.terms.drop i) (y.terms.drop j) = x.terms[i] :: addF (f' + 1 - 1) (x.terms.drop (i + 1)) (y.terms.drop j) := by
        rw [hdx]
        exact addF_x hor
      obtain ⟨a, ha, hc⟩ := v6.cells i hilt
      subst ha
      refine loads_box b6 ((po, lo, co), ()) rfl ?_
      dsimp only [flat, unc, unc1, List.nil_append, List.cons_append]
      refine loads_box b1 ((some a, l, c), ()) rfl ?_
      dsimp only [flat, unc, unc1, List.nil_append, List.cons_append]
      refine need_of ⟨by omega, by omega⟩ (osome_mk rfl ?_)
      rw [show Int.toNat (i : Int) = i by omega]
      refine loads_of (x.terms[i].1, (x.terms[i].2 : Int), ()) hc ?_
      dsimp only [flat, unc, unc1, List.nil_append, List.cons_append]
      refine push_st (vs := encT x.terms[i]) und67 termZ rfl (by omega) (by omega) (by kernel_rfl) rfl rfl s6 (by omega) (by omega) (by omega) (fun h' e => ⟨(b1.keep e (by simp)).cells _ rfl, (b6.keep e (by simp)).cells _ rfl, trivial⟩) ?_
      intro p7 c7 h7 s7 k7 hp7
      have b17 := b1.keep k7 (fun hh => by have := hsb _ hh; omega)
      have b67 := b6.keep k7 (fun hh => by have := hsb _ hh; omega)
      refine ⟨⟨hpm i a x.terms _ (.inl rfl) hc h7 k7, b17.cells _ rfl, trivial⟩, ?_⟩
      refine stores_of b67 rfl (by simp) ?_
      intro h8 b8 k8 z8
      refine again_mk (cs := [(false, [.int .i64]), (false, [.int .i64])]) (((i + 1 : Nat) : Int), (j : Int), ()) ((x.terms.length - (i + 1)) + (y.terms.length - j)) rfl (by omega) (by rw [hwi]; rfl) ⟨i + 1, j, rfl, rfl, rfl, ?_⟩
      exact push _ (i + 1) j h7 p7 c7 (by omega) hjl (by omega) hF (by omega) s7 k7 h8 b8 k8
    · have g2 := goX_false g2
      refine join_of (cs := [(false, [.bool])]) (fun z h' => z.1 = goX (y.terms.drop j) (x.terms.drop i) ∧ h6 = h') ?_ ?_
      · refine loads_box b1 ((p, l, c), ()) rfl ?_
        dsimp only [flat, unc, unc1, List.nil_append, List.cons_append]
        refine cond_mk (fun g3 => ?_) (fun g3 => ?_)
        · have g3 : (i : Int) = (l : Int) := by simpa using g3
          refine meet_mk (cs := [(false, [.bool])]) (true, ()) rfl rfl ⟨?_, rfl⟩
          rw [show x.terms.drop i = [] from List.drop_eq_nil_of_le (by omega), List.drop_eq_getElem_cons (l := y.terms) (i := j) (by omega)]
          rfl
        · have g3 : ¬ (i : Int) = (l : Int) := by simpa using g3
          have hilt : i < x.terms.length := by omega
          have hjlt : j < y.terms.length := by
            rcases Nat.lt_or_ge j y.terms.length with h | h
            · exact h
            · rcases g2 with g2 | ⟨_, _, _, _, _, g2, _⟩
              · have := List.drop_eq_nil_iff.1 g2; omega
              · rw [List.drop_eq_nil_of_le h] at g2; cases g2
          have hdx : x.terms.drop i = x.terms[i] :: x.terms.drop (i + 1) := List.drop_eq_getElem_cons hilt
          have hdy : y.terms.drop j = y.terms[j] :: y.terms.drop (j + 1) := List.drop_eq_getElem_cons hjlt
          obtain ⟨a, ha, hc⟩ := v6.cells i hilt
          obtain ⟨a', ha', hc'⟩ := u6.cells j hjlt
          subst ha ha'
          refine loads_box b2 ((some a', m, d), ()) rfl ?_
          dsimp only [flat, unc, unc1, List.nil_append, List.cons_append]
          refine need_of ⟨by omega, by omega⟩ (osome_mk rfl ?_)
          rw [show Int.toNat (j : Int) = j by omega]
          refine loads_of (y.terms[j].1, ()) (encT_cells hc').1 ?_
          dsimp only [flat, unc, unc1, List.nil_append, List.cons_append]
          refine loads_box b1 ((some a, l, c), ()) rfl ?_
          dsimp only [flat, unc, unc1, List.nil_append, List.cons_append]
          refine need_of ⟨by omega, by omega⟩ (osome_mk rfl ?_)
          rw [show Int.toNat (i : Int) = i by omega]
          refine loads_of (x.terms[i].1, ()) (encT_cells hc).1 ?_
          dsimp only [flat, unc, unc1, List.nil_append, List.cons_append]
          rw [ltB]
          refine meet_mk (cs := [(false, [.bool])]) (decide (ltN y.terms[j].1 x.terms[i].1), ()) rfl rfl ⟨?_, rfl⟩
          rw [hdx, hdy]
          rfl
      rintro ⟨b12, ⟨⟩⟩ h6' ⟨hb12, rfl⟩
      simp only at hb12
      subst hb12
      dsimp only [flat, unc, unc1, List.nil_append, List.cons_append]
      refine cond_mk (fun g3 => ?_) (fun g3 => ?_)
      · obtain ⟨pp, rr, hdd, hor⟩ := goX_true g3
        have hjlt := drop_lt hdd
        have hdy : y.terms.drop j = y.terms[j] :: y.terms.drop (j + 1) := List.drop_eq_getElem_cons hjlt
        rw [hdy] at hdd
        cases hdd
        have hF : addF (f' + 1) (x.terms.drop i) (y.terms.drop j) = y.terms[j] :: addF (f' + 1 - 1) (x.terms.drop i) (y.terms.drop (j + 1)) := by
          rw [hdy]
          exact addF_y hor
        obtain ⟨a, ha, hc⟩ := u6.cells j hjlt
        subst ha
        refine loads_box b6 ((po, lo, co), ()) rfl ?_
        dsimp only [flat, unc, unc1, List.nil_append, List.cons_append]
        refine loads_box b2 ((some a, m, d), ()) rfl ?_
        dsimp only [flat, unc, unc1, List.nil_append, List.cons_append]
        refine need_of ⟨by omega, by omega⟩ (osome_mk rfl ?_)
        rw [show Int.toNat (j : Int) = j by omega]
        refine loads_of (y.terms[j].1, (y.terms[j].2 : Int), ()) hc ?_
        dsimp only [flat, unc, unc1, List.nil_append, List.cons_append]
        refine push_st (vs := encT y.terms[j]) und67 termZ rfl (by omega) (by omega) (by kernel_rfl) rfl rfl s6 (by omega) (by omega) (by omega) (fun h' e => ⟨(b2.keep e (by simp)).cells _ rfl, (b6.keep e (by simp)).cells _ rfl, trivial⟩) ?_
        intro p7 c7 h7 s7 k7 hp7
        have b27 := b2.keep k7 (fun hh => by have := hsb _ hh; omega)
        have b67 := b6.keep k7 (fun hh => by have := hsb _ hh; omega)
        refine ⟨⟨hpm j a y.terms _ (.inr rfl) hc h7 k7, b27.cells _ rfl, trivial⟩, ?_⟩
        refine stores_of b67 rfl (by simp) ?_
        intro h8 b8 k8 z8
        refine again_mk (cs := [(false, [.int .i64]), (false, [.int .i64])]) ((i : Int), ((j + 1 : Nat) : Int), ()) ((x.terms.length - i) + (y.terms.length - (j + 1))) rfl (by omega) (by rw [hwj]; rfl) ⟨i, j + 1, rfl, rfl, rfl, ?_⟩
        exact push _ i (j + 1) h7 p7 c7 hil (by omega) (by omega) hF (by omega) s7 k7 h8 b8 k8
      · have g3 := goX_false g3
        have hb : i < x.terms.length ∧ j < y.terms.length := by
          rcases g2 with g2 | ⟨_, _, _, _, e1, e2, _⟩
          · have h1 := List.drop_eq_nil_iff.1 g2
            rcases g3 with g3 | ⟨_, _, _, _, _, e2, _⟩
            · have h2 := List.drop_eq_nil_iff.1 g3; omega
            · rw [g2] at e2; cases e2
          · exact ⟨drop_lt e1, drop_lt e2⟩
        obtain ⟨hilt, hjlt⟩ := hb
        have hdx : x.terms.drop i = x.terms[i] :: x.terms.drop (i + 1) := List.drop_eq_getElem_cons hilt
        have hdy : y.terms.drop j = y.terms[j] :: y.terms.drop (j + 1) := List.drop_eq_getElem_cons hjlt
        have n1 : ¬ ltN x.terms[i].1 y.terms[j].1 := by
          rcases g2 with g2 | ⟨_, _, _, _, e1, e2, hn⟩
          · rw [hdx] at g2; cases g2
          · rw [hdx] at e1; rw [hdy] at e2; cases e1; cases e2; exact hn
        have n2 : ¬ ltN y.terms[j].1 x.terms[i].1 := by
          rcases g3 with g3 | ⟨_, _, _, _, e1, e2, hn⟩
          · rw [hdy] at g3; cases g3
          · rw [hdy] at e1; rw [hdx] at e2; cases e1; cases e2; exact hn
        have hF : addF (f' + 1) (x.terms.drop i) (y.terms.drop j) = if (x.terms[i].2 + y.terms[j].2) % 4294967296 = 0 then addF f' (x.terms.drop (i + 1)) (y.terms.drop (j + 1)) else (x.terms[i].1, (x.terms[i].2 + y.terms[j].2) % 4294967296) :: addF f' (x.terms.drop (i + 1)) (y.terms.drop (j + 1)) := by
          rw [hdx, hdy]
          exact addF_xy n1 n2
        obtain ⟨a, ha, hc⟩ := v6.cells i hilt
        obtain ⟨a', ha', hc'⟩ := u6.cells j hjlt
        subst ha ha'
        refine loads_box b1 ((some a, l, c), ()) rfl ?_
        dsimp only [flat, unc, unc1, List.nil_append, List.cons_append]
        refine need_of ⟨by omega, by omega⟩ (osome_mk rfl ?_)
        rw [show Int.toNat (i : Int) = i by omega]
        refine loads_of ((x.terms[i].2 : Int), ()) (encT_cells hc).2 ?_
        dsimp only [flat, unc, unc1, List.nil_append, List.cons_append]
        refine loads_box b2 ((some a', m, d), ()) rfl ?_
        dsimp only [flat, unc, unc1, List.nil_append, List.cons_append]
        refine need_of ⟨by omega, by omega⟩ (osome_mk rfl ?_)
        rw [show Int.toNat (j : Int) = j by omega]
        refine loads_of ((y.terms[j].2 : Int), ()) (encT_cells hc').2 ?_
        dsimp only [flat, unc, unc1, List.nil_append, List.cons_append]
        rw [u32_add]
        refine join_of (cs := []) (fun z h' => AddI h5 h3.size x.terms y.terms (((x.num + y.num) % 4294967296 : Nat) : Int) (i + 1) (j + 1) h') ?_ ?_
        · refine cond_mk (fun g4 => ?_) (fun g4 => ?_)
          · have g4 : ¬ (x.terms[i].2 + y.terms[j].2) % 4294967296 = 0 := by
              have : ¬ (((x.terms[i].2 + y.terms[j].2) % 4294967296 : Nat) : Int) = 0 := by simpa using g4
              omega
            rw [if_neg g4] at hF
            refine loads_box b6 ((po, lo, co), ()) rfl ?_
            dsimp only [flat, unc, unc1, List.nil_append, List.cons_append]
            refine loads_box b1 ((some a, l, c), ()) rfl ?_
            dsimp only [flat, unc, unc1, List.nil_append, List.cons_append]
            refine need_of ⟨by omega, by omega⟩ (osome_mk rfl ?_)
            refine loads_of (x.terms[i].1, ()) (encT_cells hc).1 ?_
            dsimp only [flat, unc, unc1, List.nil_append, List.cons_append]
            refine push_st (vs := encT (x.terms[i].1, (x.terms[i].2 + y.terms[j].2) % 4294967296)) und67 termZ rfl (by omega) (by omega) (by kernel_rfl) rfl rfl s6 (by omega) (by omega) (by omega) (fun h' e => ⟨cellsAt_keep e (by simp) _ _ (encT_cells hc).1, (b1.keep e (by simp)).cells _ rfl, (b6.keep e (by simp)).cells _ rfl, trivial⟩) ?_
            intro p7 c7 h7 s7 k7 hp7
            have b17 := b1.keep k7 (fun hh => by have := hsb _ hh; omega)
            have b67 := b6.keep k7 (fun hh => by have := hsb _ hh; omega)
            refine ⟨⟨hpm i a x.terms _ (.inl rfl) (encT_cells hc).1 h7 k7, b17.cells _ rfl, trivial⟩, ?_⟩
            refine stores_of b67 rfl (by simp) ?_
            intro h8 b8 k8 z8
            exact meet_mk (cs := []) () rfl rfl (push _ (i + 1) (j + 1) h7 p7 c7 (by omega) (by omega) (by omega) hF (by omega) s7 k7 h8 b8 k8)
          · have g4 : (x.terms[i].2 + y.terms[j].2) % 4294967296 = 0 := by
              have : (((x.terms[i].2 + y.terms[j].2) % 4294967296 : Nat) : Int) = 0 := by simpa using g4
              omega
            rw [if_pos g4] at hF
            exact meet_mk (cs := []) () rfl rfl ⟨by omega, by omega, k6, O, po, lo, co, f', b6, s6, by rw [hO, hF], by omega, by omega⟩
        · rintro ⟨⟩ h7 I7
          exact again_mk (cs := [(false, [.int .i64]), (false, [.int .i64])]) (((i + 1 : Nat) : Int), ((j + 1 : Nat) : Int), ()) ((x.terms.length - (i + 1)) + (y.terms.length - (j + 1))) rfl (by omega) (by rw [hwi, hwj]; rfl) ⟨i + 1, j + 1, rfl, rfl, rfl, I7⟩
  · simp only [Bool.or_eq_false_iff, decide_eq_false_iff_not] at g1
    rw [List.drop_eq_nil_of_le (by omega), List.drop_eq_nil_of_le (by omega), addF_nil, List.append_nil] at hO
    refine loads_box b6 ((po, lo, co), (((x.num + y.num) % 4294967296 : Nat) : Int), ()) rfl ?_
    dsimp only [flat, unc, unc1, List.nil_append, List.cons_append]
    refine stores_of b3 rfl (by simp) ?_
    intro h7 b7 k7 z7
    have b7 : Box h7 h2.size 69 [.slice po lo co, .int .u32 (((x.num + y.num) % 4294967296 : Nat) : Int)] := b7
    refine loads_box b7 ((po, lo, co), (((x.num + y.num) % 4294967296 : Nat) : Int), ()) rfl ?_
    refine ⟨Ch.trans e06 k7 (fun j hj hl => by simp at hj; omega), po, lo, co, rfl, ?_⟩
    show SL h7 h.size 80 2 po lo co ((addM x.terms y.terms).map encT)
    rw [hO]
    exact (s6.keep' k7 (fun j hj => by have := hsb j hj; simp; omega)).mono (by omega)
end Go.Sx

set_option linter.unusedVariables false
set_option linter.unusedSimpArgs false
set_option maxRecDepth 100000
namespace Go.Sx
open Go.Proofs
/-- The state at a loop's head. -/
def LoopR (h : Hp) (A A1 A7 : Nat) (us : List Tok) (d : Int) (ts : List Tok) (q : PRes) (rest : Nat → Lin → List Tok → PRes) (m : Nat) (h' : Hp) : Prop :=
  Ch [A] h h' ∧ Box h' A1 69 [.slice none 0 0, .int .u32 0] ∧ ∃ x p l c ts' d' e', Box h' A7 69 [.slice p l c, .int .u32 (x.num : Int)] ∧ SL h' (A1 + 1) 80 2 p l c (x.terms.map encT) ∧ Good x ∧ RQ h' A us ts' d' e' ∧
    ((e' = 0 ∧ d' = d ∧ ∃ n, q = rest n x ts' ∧ ts'.length ≤ n ∧ ts' <:+ ts ∧ x.terms.length + ts'.length ≤ ts.length ∧ m = n + 1) ∨ (e' ≠ 0 ∧ q = .error e' ∧ x.terms.length ≤ ts.length ∧ m = 0))
theorem signB_ok {e : Nat} {ts : List Tok} {c : UInt8} (h : signB e ts c = true) : e = 0 ∧ ∃ t r, ts = t :: r ∧ isS t c = true := by
  unfold signB at h
  simp only [Bool.and_eq_true, decide_eq_true_eq] at h
  refine ⟨h.1, ?_⟩
  cases ts with
  | nil => have := h.2; cases this
  | cons t r => exact ⟨t, r, rfl, h.2⟩
theorem part96_hc {A : Nat} {us : List Tok} {d : Nat} {fac : List Tok → PRes} (hfac : RdC 111 A us d fac) (hfine : ∀ ts, Wf ts → Fine ts (fac ts)) : RdC 96 A us d (partG fac) := by
  intro h ts rq w hts
  refine hcr_of (args := [ptr A]) mixed Tryd.func96 (by kernel_rfl) (t_spandrelref4_reader__part_eq (some ⟨A, 0, none⟩)) ?_
  unfold t_spandrelref4_reader__part
  have hA := rq.lt
  refine newB ?_
  intro h1 b1 e1 z1
  refine call_of (hfac h1 ts (rq.keep e1 (by simp)) w hts) ?_
  rintro _ h2 ⟨k2, x, p, l, c, ts', d', e', rfl, s2, gx, rq2, post⟩
  refine ⟨((p, l, c), (x.num : Int), ()), rfl, ?_⟩
  dsimp only [flat, unc, unc1, List.nil_append, List.cons_append]
  refine newB ?_
  intro h3 b3 e3 z3
  refine stores_of b3 rfl (by simp) ?_
  intro h4 b4 k4 z4
  have b4 : Box h4 h2.size 69 [.slice p l c, .int .u32 (x.num : Int)] := b4
  have hz2 := k2.size
  have e24 : Ext h2 h4 := Ch.trans e3 k4 (fun j hj hl => by simp at hj; omega)
  have k04 : Ch [A] h h4 := Ch.trans (Ch.trans (e1.mono (by simp)) k2 (fun j hj _ => hj)) e24 (by simp)
  have b14 := (b1.keep k2 (by simp; omega)).keep e24 (by simp)
  have start : ∃ m, LoopR h A h.size h2.size us d ts (partG fac ts) (partL fac) m h4 := by
    have hf := hfine ts w
    revert post hf
    unfold partG
    cases hfr : fac ts with
    | error e =>
      rintro ⟨he, he0, hxl⟩ _
      exact ⟨0, k04, b14, x, p, l, c, ts', d', e', b4, (s2.keep' e24 (by simp)).mono (by omega), gx, rq2.keep e24 (by simp), .inr ⟨by omega, by rw [he], hxl, rfl⟩⟩
    | ok z =>
      obtain ⟨y, r⟩ := z
      rintro ⟨rfl, rfl, rfl, rfl⟩ ⟨_, hs, hl, hn⟩
      exact ⟨_, k04, b14, x, p, l, c, ts', _, 0, b4, (s2.keep' e24 (by simp)).mono (by omega), gx, rq2.keep e24 (by simp), .inl ⟨rfl, rfl, ts'.length, rfl, Nat.le_refl _, hs, hn, rfl⟩⟩
  obtain ⟨m0, start⟩ := start
  refine loop_of (cs := []) (fun y m h' => LoopR h A h.size h2.size us d ts (partG fac ts) (partL fac) m h') () m0 rfl start ?_
  rintro ⟨⟩ m h5 ⟨k5, b15, x, p, l, c, ts', d', e', b5, s5, gx, rq5, cas⟩
  dsimp only [flat, unc, unc1, List.nil_append, List.cons_append]
  have hh2 : h2.size < h5.size := b5.lt
  have hz5 := k5.size
  refine isR_of rq5 ?_
  refine cond_mk (fun g1 => ?_) (fun g1 => ?_)
  · obtain ⟨he0, t, r, rfl, gS⟩ := signB_ok g1
    rcases cas with ⟨_, rfl, n, hq, hn, hsuf, hxn, rfl⟩ | ⟨h0, _⟩
    case inr => exact absurd he0 h0
    subst he0
    simp only [List.length_cons] at hn hxn
    obtain ⟨n', rfl⟩ : ∃ n', n = n' + 1 := ⟨n - 1, by omega⟩
    have wr : Wf r := (w.suffix hsuf).tail
    have hpl : partG fac ts = match fac r with
      | .error e => .error e
      | .ok (y, r'') => if x.terms ≠ [] ∧ y.terms ≠ [] then .error 21 else if y.terms ≠ [] then partL fac n' (linT y x.num) r'' else partL fac n' (linT x y.num) r'' := by
      rw [hq]
      show (if isS t 42 = true then _ else _) = _
      rw [if_pos gS]
      cases fac r <;> rfl
    refine step_of rq5 ?_
    intro h6 k6 rq6
    have k06 : Ch [A] h h6 := Ch.trans k5 k6 (fun j hj _ => hj)
    have b16 := b15.keep k6 (by simp; omega)
    have b6 := b5.keep k6 (by simp; omega)
    have s6 := s5.keep' k6 (fun j hj => by have := (s5.blk hj).1; simp; omega)
    refine call_of (hfac h6 r rq6 wr (by omega)) ?_
    rintro _ h7 ⟨k7, y, p', l', c', ts', d', e', rfl, s7, gy, rq7, post⟩
    refine ⟨((p', l', c'), (y.num : Int), ()), rfl, ?_⟩
    dsimp only [flat, unc, unc1, List.nil_append, List.cons_append]
    have hz7 := k7.size
    refine newB ?_
    intro h8 b8 e8 z8
    refine stores_of b8 rfl (by simp) ?_
    intro h9 b9 k9 z9
    have b9 : Box h9 h7.size 69 [.slice p' l' c', .int .u32 (y.num : Int)] := b9
    have e79 : Ext h7 h9 := Ch.trans e8 k9 (fun j hj hl => by simp at hj; omega)
    have k69 : Ch [A] h6 h9 := Ch.trans k7 e79 (by simp)
    have k09 : Ch [A] h h9 := Ch.trans k06 k69 (fun j hj _ => hj)
    have b19 := b16.keep k69 (by simp; omega)
    have bx9 := b6.keep k69 (by simp; omega)
    have sx9 := s6.keep' k69 (fun j hj => by have := (s6.blk hj).1; simp; omega)
    have hz6 := k06.size
    have sy9 := (s7.keep' e79 (by simp)).mono (b' := h.size + 1) (by have := k6.size; omega)
    obtain ⟨i9, ⟨pq, lq, cq, bQ, vq, hpq, hiq, huq⟩, htq⟩ := rq7.keep e79 (by simp)
    have rq9 : RQ h9 A us ts' d' e' := ⟨i9, ⟨pq, lq, cq, bQ, vq, hpq, hiq, huq⟩, htq⟩
    refine osome_mk rfl ?_
    rw [add_box]
    refine loads_box bQ ((e' : Int), ()) rfl ?_
    dsimp only [flat, unc, unc1, List.nil_append, List.cons_append]
    refine cond_mk (fun g2 => ?_) (fun g2 => ?_)
    · have g2 : ¬ e' = 0 := by simpa using g2
      refine outR k09 (Nat.le_refl _) hA b19 bx9 sx9 (by omega) gx rq9 ?_
      rw [hpl]
      revert post
      cases fac r with
      | error e => rintro ⟨he, he0, _⟩; exact ⟨he, he0, by omega⟩
      | ok z => obtain ⟨_, _⟩ := z; rintro ⟨he, _, _, _⟩; exact absurd he g2
    · have g2 : e' = 0 := by simpa using g2
      subst g2
      have hff := hfine r wr
      revert post hff
      cases hfr : fac r with
      | error e => rintro ⟨rfl, he, _⟩ _; exact absurd rfl he
      | ok z =>
        obtain ⟨y', r''⟩ := z
        rintro ⟨_, rfl, rfl, rfl⟩ ⟨_, hs2, hl2, hn2⟩
        rw [hfr] at hpl
        simp only at hpl
        have hlx : l = x.terms.length := by rw [sx9.1, List.length_map]
        have hly : l' = y.terms.length := by rw [sy9.1, List.length_map]
        have hsuf2 : ts' <:+ ts := (hs2.trans (List.suffix_cons _ _)).trans hsuf
        refine join_of (cs := [(false, [.bool])]) (fun z h' => z.1 = (decide (x.terms ≠ []) && decide (y.terms ≠ [])) ∧ h9 = h') ?_ ?_
        · refine loads_box bx9 ((p, l, c), ()) rfl ?_
          dsimp only [flat, unc, unc1, List.nil_append, List.cons_append]
          refine cond_mk (fun g3 => ?_) (fun g3 => ?_)
          · have g3 := of_decide_eq_true g3
            refine loads_box b9 ((p', l', c'), ()) rfl ?_
            dsimp only [flat, unc, unc1, List.nil_append, List.cons_append]
            refine meet_mk (cs := [(false, [.bool])]) (decide ((l' : Int) > 0), ()) rfl rfl ⟨?_, rfl⟩
            have hx0 : x.terms ≠ [] := fun hh => by rw [hh] at hlx; simp at hlx; omega
            rw [decide_eq_true hx0, Bool.true_and]
            cases hy0 : y.terms with
            | nil => rw [hy0] at hly; simp at hly; subst hly; rfl
            | cons a b =>
              rw [hy0] at hly
              simp only [List.length_cons] at hly
              show decide ((l' : Int) > 0) = decide (a :: b ≠ [])
              rw [decide_eq_true (by omega), decide_eq_true (by simp)]
          · have g3 := of_decide_eq_false g3
            refine meet_mk (cs := [(false, [.bool])]) (false, ()) rfl rfl ⟨?_, rfl⟩
            have hx0 : x.terms = [] := List.length_eq_zero_iff.1 (by omega)
            rw [hx0]
            rfl
        · rintro ⟨b10, ⟨⟩⟩ h9' ⟨hb10, rfl⟩
          simp only at hb10
          subst hb10
          dsimp only [flat, unc, unc1, List.nil_append, List.cons_append]
          have hh9 := b9.lt
          have hhx9 := bx9.lt
          have hz9 := k09.size
          have hz69 := k69.size
          refine cond_mk (fun g3 => ?_) (fun g3 => ?_)
          · simp only [Bool.and_eq_true, decide_eq_true_eq] at g3
            rw [if_pos g3] at hpl
            refine refuseR_of (w := 21) rq9 ?_
            intro h10 k10 rq10
            rw [hpl]
            refine outR (Ch.trans k09 k10 (fun j hj _ => hj)) (Nat.le_refl _) hA (b19.keep k10 (by simp; omega)) (bx9.keep k10 (by simp; omega)) (sx9.keep' k10 (fun j hj => by have := (sx9.blk hj).1; simp; omega)) (by omega) gx rq10 ?_
            exact ⟨rfl, by omega, by omega⟩
          · rw [if_neg (by intro hh; rw [decide_eq_true hh.1, decide_eq_true hh.2] at g3; cases g3)] at hpl
            refine loads_box b9 ((p', l', c'), ()) rfl ?_
            dsimp only [flat, unc, unc1, List.nil_append, List.cons_append]
            refine cond_mk (fun g4 => ?_) (fun g4 => ?_)
            · have g4 := of_decide_eq_true g4
              rw [if_pos (by intro hh; rw [hh] at hly; simp at hly; omega)] at hpl
              refine loads_box b9 ((p', l', c'), (y.num : Int), ()) rfl ?_
              dsimp only [flat, unc, unc1, List.nil_append, List.cons_append]
              rw [add_box]
              refine loads_box bx9 ((x.num : Int), ()) rfl ?_
              dsimp only [flat, unc, unc1, List.nil_append, List.cons_append]
              refine call_of (times98_hc sy9.vwT (by omega) sy9.vwT' x.num) ?_
              rintro _ h10 ⟨e10, q', m', cq', rfl, s10⟩
              refine ⟨((q', m', cq'), ((linT y x.num).num : Int), ()), rfl, ?_⟩
              dsimp only [flat, unc, unc1, List.nil_append, List.cons_append]
              refine stores_of (bx9.keep e10 (by simp)) rfl (by simp) ?_
              intro h11 b11 k11 z11
              have b11 : Box h11 h2.size 69 [.slice q' m' cq', .int .u32 ((linT y x.num).num : Int)] := b11
              have k911 : Ch [h2.size] h9 h11 := Ch.trans (e10.mono (by simp)) k11 (fun j hj _ => hj)
              have htl := timesN_length x.num y.terms
              refine again_mk (cs := []) () (n' + 1) rfl (by omega) rfl ⟨Ch.trans k09 k911 (fun j hj hl => by simp at hj; omega), b19.keep k911 (by simp; omega), linT y x.num, q', m', cq', ts', _, 0, b11, (s10.keep' k11 (fun j hj => by have := (s10.blk hj).1; simp; omega)).mono (by omega), gy.T _, rq9.keep k911 (by simp; omega),
                .inl ⟨rfl, rfl, n', hpl, by omega, hsuf2, ?_, rfl⟩⟩
              show (timesN x.num y.terms).length + ts'.length ≤ ts.length
              omega
            · have g4 := of_decide_eq_false g4
              rw [if_neg (by intro hh; exact hh (List.length_eq_zero_iff.1 (by omega)))] at hpl
              refine loads_box bx9 ((p, l, c), (x.num : Int), ()) rfl ?_
              dsimp only [flat, unc, unc1, List.nil_append, List.cons_append]
              rw [add_box]
              refine loads_box b9 ((y.num : Int), ()) rfl ?_
              dsimp only [flat, unc, unc1, List.nil_append, List.cons_append]
              refine call_of (times98_hc sx9.vwT (by omega) sx9.vwT' y.num) ?_
              rintro _ h10 ⟨e10, q', m', cq', rfl, s10⟩
              refine ⟨((q', m', cq'), ((linT x y.num).num : Int), ()), rfl, ?_⟩
              dsimp only [flat, unc, unc1, List.nil_append, List.cons_append]
              refine stores_of (bx9.keep e10 (by simp)) rfl (by simp) ?_
              intro h11 b11 k11 z11
              have b11 : Box h11 h2.size 69 [.slice q' m' cq', .int .u32 ((linT x y.num).num : Int)] := b11
              have k911 : Ch [h2.size] h9 h11 := Ch.trans (e10.mono (by simp)) k11 (fun j hj _ => hj)
              have htl := timesN_length y.num x.terms
              refine again_mk (cs := []) () (n' + 1) rfl (by omega) rfl ⟨Ch.trans k09 k911 (fun j hj hl => by simp at hj; omega), b19.keep k911 (by simp; omega), linT x y.num, q', m', cq', ts', _, 0, b11, (s10.keep' k11 (fun j hj => by have := (s10.blk hj).1; simp; omega)).mono (by omega), gx.T _, rq9.keep k911 (by simp; omega),
                .inl ⟨rfl, rfl, n', hpl, by omega, hsuf2, ?_, rfl⟩⟩
              show (timesN y.num x.terms).length + ts'.length ≤ ts.length
              omega
  · refine outR k5 (Nat.le_refl _) hA b15 b5 s5 (by omega) gx rq5 ?_
    rcases cas with ⟨rfl, rfl, n, hq, hn, hsuf, hxn, rfl⟩ | ⟨h0, hq, hxl, rfl⟩
    · rw [hq, partL_stop g1]
      exact ⟨rfl, rfl, rfl, rfl⟩
    · rw [hq]
      exact ⟨rfl, h0, hxl⟩
/-- A sum's second summand. -/
def sgn (b : Bool) (y : Lin) : Lin := if b = true then linT y 4294967295 else y
theorem Good.sgn {y : Lin} (g : Good y) (b : Bool) : Good (sgn b y) := by
  cases b
  · exact g
  · exact g.T _
theorem sgn_length (b : Bool) (y : Lin) : (sgn b y).terms.length ≤ y.terms.length := by
  cases b
  · exact Nat.le_refl _
  · exact timesN_length _ _
theorem sum83_hc {A : Nat} {us : List Tok} {d : Nat} {part : List Tok → PRes} (hpart : RdC 96 A us d part) (hfine : ∀ ts, Wf ts → Fine ts (part ts)) : RdC 83 A us d (sumG part) := by
  intro h ts rq w hts
  refine hcr_of (args := [ptr A]) mixed Tryd.func83 (by kernel_rfl) (t_spandrelref4_reader__sum_eq (some ⟨A, 0, none⟩)) ?_
  unfold t_spandrelref4_reader__sum
  have hA := rq.lt
  refine newB ?_
  intro h1 b1 e1 z1
  refine call_of (hpart h1 ts (rq.keep e1 (by simp)) w hts) ?_
  rintro _ h2 ⟨k2, x, p, l, c, ts', d', e', rfl, s2, gx, rq2, post⟩
  refine ⟨((p, l, c), (x.num : Int), ()), rfl, ?_⟩
  dsimp only [flat, unc, unc1, List.nil_append, List.cons_append]
  refine newB ?_
  intro h3 b3 e3 z3
  refine stores_of b3 rfl (by simp) ?_
  intro h4 b4 k4 z4
  have b4 : Box h4 h2.size 69 [.slice p l c, .int .u32 (x.num : Int)] := b4
  have hz2 := k2.size
  have e24 : Ext h2 h4 := Ch.trans e3 k4 (fun j hj hl => by simp at hj; omega)
  have k04 : Ch [A] h h4 := Ch.trans (Ch.trans (e1.mono (by simp)) k2 (fun j hj _ => hj)) e24 (by simp)
  have b14 := (b1.keep k2 (by simp; omega)).keep e24 (by simp)
  have start : ∃ m, LoopR h A h.size h2.size us d ts (sumG part ts) (sumL part) m h4 := by
    have hf := hfine ts w
    revert post hf
    unfold sumG
    cases hfr : part ts with
    | error e =>
      rintro ⟨he, he0, hxl⟩ _
      exact ⟨0, k04, b14, x, p, l, c, ts', d', e', b4, (s2.keep' e24 (by simp)).mono (by omega), gx, rq2.keep e24 (by simp), .inr ⟨by omega, by rw [he], hxl, rfl⟩⟩
    | ok z =>
      obtain ⟨y, r⟩ := z
      rintro ⟨rfl, rfl, rfl, rfl⟩ ⟨_, hs, hl, hn⟩
      exact ⟨_, k04, b14, x, p, l, c, ts', _, 0, b4, (s2.keep' e24 (by simp)).mono (by omega), gx, rq2.keep e24 (by simp), .inl ⟨rfl, rfl, ts'.length, rfl, Nat.le_refl _, hs, hn, rfl⟩⟩
  obtain ⟨m0, start⟩ := start
  refine loop_of (cs := []) (fun y m h' => LoopR h A h.size h2.size us d ts (sumG part ts) (sumL part) m h') () m0 rfl start ?_
  rintro ⟨⟩ m h5 ⟨k5, b15, x, p, l, c, ts', d', e', b5, s5, gx, rq5, cas⟩
  dsimp only [flat, unc, unc1, List.nil_append, List.cons_append]
  have hh2 : h2.size < h5.size := b5.lt
  have hz5 := k5.size
  refine join_of (cs := [(false, [.bool])]) (fun z h' => z.1 = (signB e' ts' 43 || signB e' ts' 45) ∧ h5 = h') ?_ ?_
  · refine isR_of rq5 ?_
    refine cond_mk (fun g1 => ?_) (fun g1 => ?_)
    · exact meet_mk (cs := [(false, [.bool])]) (true, ()) rfl rfl ⟨by rw [g1]; rfl, rfl⟩
    · refine isR_of rq5 ?_
      exact meet_mk (cs := [(false, [.bool])]) (signB e' ts' 45, ()) rfl rfl ⟨by rw [g1]; rfl, rfl⟩
  rintro ⟨b7, ⟨⟩⟩ h5' ⟨hb7, rfl⟩
  simp only at hb7
  subst hb7
  dsimp only [flat, unc, unc1, List.nil_append, List.cons_append]
  refine cond_mk (fun g1 => ?_) (fun g1 => ?_)
  · have hor : signB e' ts' 43 = true ∨ signB e' ts' 45 = true := by simpa [Bool.or_eq_true] using g1
    have hsp : ∃ t r, ts' = t :: r ∧ e' = 0 ∧ (isS t 43 = true ∨ (isS t 43 = false ∧ isS t 45 = true)) := by
      rcases hor with hh | hh
      · obtain ⟨he0, t, r, rfl, gS⟩ := signB_ok hh
        exact ⟨t, r, rfl, he0, .inl gS⟩
      · obtain ⟨he0, t, r, rfl, gS⟩ := signB_ok hh
        refine ⟨t, r, rfl, he0, ?_⟩
        cases h43 : isS t 43 with
        | true => exact .inl rfl
        | false => exact .inr ⟨rfl, gS⟩
    obtain ⟨t, r, rfl, he0, hk⟩ := hsp
    rcases cas with ⟨_, rfl, n, hq, hn, hsuf, hxn, rfl⟩ | ⟨h0, _⟩
    case inr => exact absurd he0 h0
    subst he0
    simp only [List.length_cons] at hn hxn
    obtain ⟨n', rfl⟩ : ∃ n', n = n' + 1 := ⟨n - 1, by omega⟩
    have wr : Wf r := (w.suffix hsuf).tail
    have h45 : isS t 43 = true → isS t 45 = false := by
      intro hh
      unfold isS at hh ⊢
      simp only [Bool.and_eq_true, beq_iff_eq] at hh
      rw [hh.2]
      simp
    have hpl : sumG part ts = match part r with
      | .error e => .error e
      | .ok (y, r'') => sumL part n' (linA x (sgn (isS t 45) y)) r'' := by
      rw [hq]
      show (if isS t 43 = true then _ else if isS t 45 = true then _ else _) = _
      rcases hk with hk | ⟨hk, hk2⟩
      · rw [if_pos hk, h45 hk]
        cases part r <;> rfl
      · rw [if_neg (by rw [hk]; simp), if_pos hk2, hk2]
        cases part r <;> rfl
    refine isR_of rq5 ?_
    have hsb : signB 0 (t :: r) 45 = isS t 45 := by unfold signB; rfl
    rw [hsb]
    generalize isS t 45 = b8 at hpl
    refine step_of rq5 ?_
    intro h6 k6 rq6
    have k06 : Ch [A] h h6 := Ch.trans k5 k6 (fun j hj _ => hj)
    have b16 := b15.keep k6 (by simp; omega)
    have b6 := b5.keep k6 (by simp; omega)
    have s6 := s5.keep' k6 (fun j hj => by have := (s5.blk hj).1; simp; omega)
    refine call_of (hpart h6 r rq6 wr (by omega)) ?_
    rintro _ h7 ⟨k7, y, p', l', c', ts', d', e', rfl, s7, gy, rq7, post⟩
    refine ⟨((p', l', c'), (y.num : Int), ()), rfl, ?_⟩
    dsimp only [flat, unc, unc1, List.nil_append, List.cons_append]
    have hz7 := k7.size
    refine newB ?_
    intro h8 b8' e8 z8
    refine stores_of b8' rfl (by simp) ?_
    intro h9 b9 k9 z9
    have b9 : Box h9 h7.size 69 [.slice p' l' c', .int .u32 (y.num : Int)] := b9
    have e79 : Ext h7 h9 := Ch.trans e8 k9 (fun j hj hl => by simp at hj; omega)
    have k69 : Ch [A] h6 h9 := Ch.trans k7 e79 (by simp)
    have k09 : Ch [A] h h9 := Ch.trans k06 k69 (fun j hj _ => hj)
    have b19 := b16.keep k69 (by simp; omega)
    have bx9 := b6.keep k69 (by simp; omega)
    have sx9 := s6.keep' k69 (fun j hj => by have := (s6.blk hj).1; simp; omega)
    have hz6 := k06.size
    have hz66 := k6.size
    have sy9 := (s7.keep' e79 (by simp)).mono (b' := h.size + 1) (by omega)
    have rq9 := rq7.keep e79 (by simp)
    have hhx9 := bx9.lt
    have hz9 := k09.size
    have hz69 := k69.size
    have hyl : y.terms.length ≤ r.length := by
      have hff := hfine r wr
      revert post hff
      cases part r with
      | error e => rintro ⟨_, _, hl⟩ _; exact hl
      | ok z =>
        obtain ⟨y', r''⟩ := z
        rintro ⟨_, rfl, _, _⟩ ⟨_, _, _, hl⟩
        omega
    have hb6 := b6.lt
    refine join_of (cs := []) (fun _ h' => Ch [h7.size] h9 h' ∧ ∃ p l c, Box h' h7.size 69 [.slice p l c, .int .u32 ((sgn b8 y).num : Int)] ∧ SL h' (h.size + 1) 80 2 p l c ((sgn b8 y).terms.map encT)) ?_ ?_
    · refine cond_mk (fun g3 => ?_) (fun g3 => ?_)
      · subst g3
        refine loads_box b9 ((p', l', c'), (y.num : Int), ()) rfl ?_
        dsimp only [flat, unc, unc1, List.nil_append, List.cons_append]
        refine call_of (times98_hc sy9.vwT (by omega) sy9.vwT' 4294967295) ?_
        rintro _ h10 ⟨e10, q', m', cq', rfl, s10⟩
        refine ⟨((q', m', cq'), ((linT y 4294967295).num : Int), ()), rfl, ?_⟩
        dsimp only [flat, unc, unc1, List.nil_append, List.cons_append]
        have hb9 := b9.lt
        refine stores_of (b9.keep e10 (by simp)) rfl (by simp) ?_
        intro h11 b11 k11 z11
        have b11 : Box h11 h7.size 69 [.slice q' m' cq', .int .u32 ((linT y 4294967295).num : Int)] := b11
        exact meet_mk (cs := []) () rfl rfl ⟨Ch.trans (e10.mono (by simp)) k11 (fun j hj _ => hj), q', m', cq', b11, (s10.keep' k11 (fun j hj => by have := (s10.blk hj).1; simp; omega)).mono (by omega)⟩
      · subst g3
        exact meet_mk (cs := []) () rfl rfl ⟨Ch.refl _ _, p', l', c', b9, sy9⟩
    rintro ⟨⟩ h10 ⟨k10, q, m, cq, b10, s10⟩
    dsimp only [flat, unc, unc1, List.nil_append, List.cons_append]
    have gs := gy.sgn b8
    have hsl := sgn_length b8 y
    have bx10 := bx9.keep k10 (by simp; omega)
    have sx10 := sx9.keep' k10 (fun j hj => by have := (sx9.blk hj).2; have := (s6.blk hj).2; simp; omega)
    have b110 := b19.keep k10 (by simp; omega)
    have rq10 := rq9.keep k10 (by simp; omega)
    have k010 : Ch [A] h h10 := Ch.trans k09 k10 (fun j hj hl => by simp at hj; omega)
    have hz10 := k10.size
    refine loads_box bx10 ((p, l, c), (x.num : Int), ()) rfl ?_
    dsimp only [flat, unc, unc1, List.nil_append, List.cons_append]
    refine loads_box b10 ((q, m, cq), ((sgn b8 y).num : Int), ()) rfl ?_
    dsimp only [flat, unc, unc1, List.nil_append, List.cons_append]
    refine call_of (add99_hc sx10.vwT s10.vwT sx10.vwT' s10.vwT' (by omega)) ?_
    rintro _ h11 ⟨e11, q', m', cq', rfl, s11⟩
    refine ⟨((q', m', cq'), ((linA x (sgn b8 y)).num : Int), ()), rfl, ?_⟩
    dsimp only [flat, unc, unc1, List.nil_append, List.cons_append]
    have hb10 := bx10.lt
    refine stores_of (bx10.keep e11 (by simp)) rfl (by simp) ?_
    intro h12 b12 k12 z12
    have b12 : Box h12 h2.size 69 [.slice q' m' cq', .int .u32 ((linA x (sgn b8 y)).num : Int)] := b12
    have k1012 : Ch [h2.size] h10 h12 := Ch.trans (e11.mono (by simp)) k12 (fun j hj _ => hj)
    have hall : (linA x (sgn b8 y)).terms.length ≤ x.terms.length + (sgn b8 y).terms.length := addM_length x.terms (sgn b8 y).terms
    have mk : ∀ m, ((e' = 0 ∧ d' = d ∧ ∃ n, sumG part ts = sumL part n (linA x (sgn b8 y)) ts' ∧ ts'.length ≤ n ∧ ts' <:+ ts ∧ (linA x (sgn b8 y)).terms.length + ts'.length ≤ ts.length ∧ m = n + 1) ∨ (e' ≠ 0 ∧ sumG part ts = .error e' ∧ (linA x (sgn b8 y)).terms.length ≤ ts.length ∧ m = 0)) →
        LoopR h A h.size h2.size us d ts (sumG part ts) (sumL part) m h12 := fun m hc =>
      ⟨Ch.trans k010 k1012 (fun j hj hl => by simp at hj; omega), b110.keep k1012 (by simp; omega), linA x (sgn b8 y), q', m', cq', ts', d', e', b12, (s11.keep' k12 (fun j hj => by have := (s11.blk hj).1; simp; omega)).mono (by omega), gx.A gs, rq10.keep k1012 (by simp; omega), hc⟩
    have hff := hfine r wr
    revert post hff
    cases hfr : part r with
    | error e =>
      rintro ⟨he, he0, _⟩ _
      refine again_mk (cs := []) () 0 rfl (by omega) rfl (mk 0 (.inr ⟨by omega, ?_, by omega, rfl⟩))
      rw [hpl, hfr, he]
    | ok z =>
      obtain ⟨y', r''⟩ := z
      rintro ⟨he, rfl, rfl, hd'⟩ ⟨_, hs2, hl2, hn2⟩
      rw [hfr] at hpl
      exact again_mk (cs := []) () (n' + 1) rfl (by omega) rfl (mk _ (.inl ⟨he, hd', n', hpl, by omega, (hs2.trans (List.suffix_cons _ _)).trans hsuf, by omega, rfl⟩))
  · have g1 : signB e' ts' 43 = false ∧ signB e' ts' 45 = false := by simpa [Bool.or_eq_false_iff] using g1
    refine outR k5 (Nat.le_refl _) hA b15 b5 s5 (by omega) gx rq5 ?_
    rcases cas with ⟨rfl, rfl, n, hq, hn, hsuf, hxn, rfl⟩ | ⟨h0, hq, hxl, rfl⟩
    · rw [hq, sumL_stop g1.1 g1.2]
      exact ⟨rfl, rfl, rfl, rfl⟩
    · rw [hq]
      exact ⟨rfl, h0, hxl⟩
theorem sumR_hc (A : Nat) {us : List Tok} (hz : ∀ t, t ∈ us → t.text.size ≤ 9223372036854775807) : ∀ k d : Nat, d + k = 32 → RdC 83 A us d (sumD k) := by
  intro k
  induction k with
  | zero =>
    intro d hd
    exact sum83_hc (part96_hc (fac111_hc (o := none) hz (by omega) (by show d = 32; omega) (by intro f hf; cases hf)) (facG_fine (by intro f hf; cases hf))) (partG_fine (facG_fine (by intro f hf; cases hf)))
  | succ k ih =>
    intro d hd
    have hfine : ∀ f, some (sumD k) = some f → ∀ ts, Wf ts → Fine ts (f ts) := by
      intro f hf
      cases hf
      exact sumD_fine k
    exact sum83_hc (part96_hc (fac111_hc (o := some (sumD k)) hz (by omega) ⟨by omega, ih (d + 1) (by omega)⟩ hfine) (facG_fine hfine)) (partG_fine (facG_fine hfine))
theorem parse47_hc {h : Hp} {p : Option Addr} {l c : Nat} {ts : List Tok} (v : Vw h p l c ts) (hp : ∀ i, i ∈ blkOf p → i < h.size) (w : Wf ts) (hts : ts.length ≤ 2 ^ 40) (hz : ∀ t, t ∈ ts → t.text.size ≤ 9223372036854775807) :
    HC Tryd.prog 47 #[.slice p l c] h (ParseP h (parseX ts)) := by
  refine hcr_of (args := [.slice p l c]) mixed Tryd.func47 (by kernel_rfl) (t_spandrelref4_Parse_eq p l c) ?_
  unfold t_spandrelref4_Parse
  refine newB ?_
  intro h1 b1 e1 z1
  refine newB ?_
  intro h2 b2 e2 z2
  have hll := v.len
  have e02 := e1.trans e2
  have rq2 : RQ h2 h1.size ts ts (0 : Nat) 0 := ⟨0, ⟨p, l, c, b2, v.keep e02 (by simp), fun i hi => by have := hp i hi; omega, Nat.zero_le _, hts⟩, rfl⟩
  refine call_of (sumR_hc h1.size hz 32 0 rfl h2 ts rq2 w hts) ?_
  rintro _ h3 ⟨k3, x, p', l', c', ts', d', e', rfl, s3, gx, rq3, post⟩
  refine ⟨((p', l', c'), (x.num : Int), ()), rfl, ?_⟩
  dsimp only [flat, unc, unc1, List.nil_append, List.cons_append]
  refine newB ?_
  intro h4 b4 e4 z4
  refine stores_of b4 rfl (by simp) ?_
  intro h5 b5 k5 z5
  have b5 : Box h5 h3.size 69 [.slice p' l' c', .int .u32 (x.num : Int)] := b5
  have e35 : Ext h3 h5 := Ch.trans e4 k5 (fun j hj hl => by simp at hj; omega)
  have hz3 := k3.size
  have hb2 := b2.lt
  have e05 : Ext h h5 := Ch.trans (Ch.trans e02 k3 (fun j hj hl => by simp at hj; omega)) e35 (by simp)
  have b15 := ((b1.keep e2 (by simp)).keep k3 (by simp; omega)).keep e35 (by simp)
  have rq5 := rq3.keep e35 (by simp)
  have s5 := s3.keep' e35 (by simp)
  obtain ⟨i, ⟨q, m, cq, bQ, vq, hq, hi, hu⟩, ht⟩ := rq5
  have rq5 : RQ h5 h1.size ts ts' d' e' := ⟨i, ⟨q, m, cq, bQ, vq, hq, hi, hu⟩, ht⟩
  have bad : ∀ hx (bQ : ∃ q m cq i d, Box hx h1.size 123 [.slice q m cq, .int .i64 i, .int .i64 d, .int .i64 (e' : Int)]) , Box hx h.size 69 [.slice none 0 0, .int .u32 0] → Ext h hx → parseX ts = .error e' → (T.loads ⟨h1.size, 3, none⟩ [.int .i64] fun (n10 : Int) => T.stores ⟨h.size, 0, none⟩ [.slice none 0 0, .int .u32 (0 : Int)] <| T.stable [(⟨h1.size, 3, none⟩, [.int .i64 n10])] <|
      T.loads ⟨h.size, 0, none⟩ [.slice 80, .int .u32] fun (p : Option Addr) (l c : Nat) (n : Int) => T.ret (.tuple #[.agg #[.slice p l c, .int .u32 n], .int .i64 n10])) [] (fun v h' => ParseP h (parseX ts) v h') hx := by
    rintro hx ⟨q, m, cq, i, d, bQ⟩ b1x ex he
    refine loads_box bQ ((e' : Int), ()) rfl ?_
    dsimp only [flat, unc, unc1, List.nil_append, List.cons_append]
    refine stores_of b1x rfl (by simp) ?_
    intro h7 b7 k7 z7
    have b7 : Box h7 h.size 69 [.slice none 0 0, .int .u32 0] := b7
    have bQ7 := bQ.keep k7 (by simp; omega)
    refine ⟨⟨bQ7.cells _ rfl, trivial⟩, ?_⟩
    refine loads_box b7 ((none, 0, 0), (0 : Int), ()) rfl ?_
    refine ⟨Ch.trans ex k7 (fun j hj hl => by simp at hj; omega), ?_⟩
    rw [he]
  have good : ∀ hx, Box hx h3.size 69 [.slice p' l' c', .int .u32 (x.num : Int)] → Box hx h.size 69 [.slice none 0 0, .int .u32 0] → SL hx h2.size 80 2 p' l' c' (x.terms.map encT) → Ext h hx → parseX ts = .ok x → (T.loads ⟨h3.size, 0, none⟩ [.slice 80, .int .u32] fun (p : Option Addr) (l c : Nat) (n : Int) => T.stores ⟨h.size, 0, none⟩ [.slice p l c, .int .u32 n] <|
      T.loads ⟨h.size, 0, none⟩ [.slice 80, .int .u32] fun (p : Option Addr) (l c : Nat) (n : Int) => T.ret (.tuple #[.agg #[.slice p l c, .int .u32 n], .int .i64 (0 : Int)])) [] (fun v h' => ParseP h (parseX ts) v h') hx := by
    intro hx bx b1x sx ex he
    refine loads_box bx ((p', l', c'), (x.num : Int), ()) rfl ?_
    dsimp only [flat, unc, unc1, List.nil_append, List.cons_append]
    refine stores_of b1x rfl (by simp) ?_
    intro h7 b7 k7 z7
    have b7 : Box h7 h.size 69 [.slice p' l' c', .int .u32 (x.num : Int)] := b7
    refine loads_box b7 ((p', l', c'), (x.num : Int), ()) rfl ?_
    refine ⟨Ch.trans ex k7 (fun j hj hl => by simp at hj; omega), ?_⟩
    rw [he]
    exact ⟨p', l', c', rfl, (sx.keep' k7 (fun j hj => by have := (sx.blk hj).1; simp; omega)).mono (by omega), gx⟩
  rw [add_box]
  refine loads_box bQ ((e' : Int), ()) rfl ?_
  dsimp only [flat, unc, unc1, List.nil_append, List.cons_append]
  refine cond_mk (fun g1 => ?_) (fun g1 => ?_)
  · have g1 : e' = 0 := by have : (e' : Int) = 0 := by simpa using g1
                           omega
    subst g1
    have hok : sumD 32 ts = .ok (x, ts') := by
      revert post
      cases sumD 32 ts with
      | error e => rintro ⟨rfl, h0, _⟩; exact absurd rfl h0
      | ok z => obtain ⟨y, r⟩ := z; rintro ⟨_, rfl, rfl, _⟩; rfl
    rw [add_box]
    refine loads_box bQ ((i : Int), ()) rfl ?_
    dsimp only [flat, unc, unc1, List.nil_append, List.cons_append]
    refine cond_mk (fun g2 => ?_) (fun g2 => ?_)
    · have g2 := of_decide_eq_true g2
      have hne : ts' ≠ [] := by rw [ht]; intro hh; have := List.drop_eq_nil_iff.1 hh; omega
      refine refuseR_of (w := 20) rq5 ?_
      intro h6 k6 rq6
      obtain ⟨i6, ⟨q6, m6, cq6, bQ6, vq6, hq6, hi6, hu6⟩, ht6⟩ := rq6
      have bQ6 : Box h6 h1.size 123 [.slice q6 m6 cq6, .int .i64 (i6 : Int), .int .i64 d', .int .i64 ((20 : Nat) : Int)] := bQ6
      refine loads_box bQ6 (((20 : Nat) : Int), ()) rfl ?_
      dsimp only [flat, unc, unc1, List.nil_append, List.cons_append]
      refine cond_t rfl ?_
      refine loads_box bQ6 (((20 : Nat) : Int), ()) rfl ?_
      dsimp only [flat, unc, unc1, List.nil_append, List.cons_append]
      refine stores_of (b15.keep k6 (by simp; omega)) rfl (by simp) ?_
      intro h7 b7 k7 z7
      have b7 : Box h7 h.size 69 [.slice none 0 0, .int .u32 0] := b7
      have bQ7 := bQ6.keep k7 (by simp; omega)
      refine ⟨⟨bQ7.cells _ rfl, trivial⟩, ?_⟩
      refine loads_box b7 ((none, 0, 0), (0 : Int), ()) rfl ?_
      have he : parseX ts = .error 20 := by unfold parseX; rw [hok]; simp only; rw [if_neg hne]
      refine ⟨Ch.trans (Ch.trans e05 k6 (fun j hj hl => by simp at hj; omega)) k7 (fun j hj hl => by simp at hj; omega), ?_⟩
      rw [he]
    · have g2 := of_decide_eq_false g2
      have hnil : ts' = [] := by rw [ht]; exact List.drop_eq_nil_of_le (by omega)
      refine loads_box bQ ((0 : Int), ()) rfl ?_
      dsimp only [flat, unc, unc1, List.nil_append, List.cons_append]
      refine cond_f rfl ?_
      exact good h5 b5 b15 s5 e05 (by unfold parseX; rw [hok]; simp only; rw [if_pos hnil])
  · have g1 : ¬ e' = 0 := by have : ¬ (e' : Int) = 0 := by simpa using g1
                             omega
    have he : parseX ts = .error e' := by
      unfold parseX
      revert post
      cases sumD 32 ts with
      | error e => rintro ⟨rfl, h0, _⟩; rfl
      | ok z => obtain ⟨y, r⟩ := z; rintro ⟨h0, _⟩; exact absurd h0 g1
    refine loads_box bQ ((e' : Int), ()) rfl ?_
    dsimp only [flat, unc, unc1, List.nil_append, List.cons_append]
    refine cond_t (by simpa using g1) ?_
    exact bad h5 ⟨q, m, cq, _, _, bQ⟩ b15 e05 he
end Go.Sx

set_option linter.unusedVariables false
set_option linter.unusedSimpArgs false
set_option maxRecDepth 100000
namespace Go.Sx
open Go.Proofs
theorem size_lexF {s : ByteArray} : ∀ (f k : Nat) (acc : List Tok), k ≤ s.size → (∀ t, t ∈ acc → t.text.size ≤ s.size) → ∀ t, t ∈ (lexF s f k acc).1 → t.text.size ≤ s.size
  | 0, k, acc, hk, w => w
  | f + 1, k, acc, hk, w => by
    unfold lexF
    cases h : lexStep s k with
    | stop => exact w
    | wrong a => intro t ht; simp at ht
    | tok t k' =>
      simp only
      have h1 := lexStep_tok hk h
      have hle : k + rowN (s.data.toList.drop k) blanksL ≤ s.size := by
        have := rowN_le (s.data.toList.drop k) blanksL
        rw [List.length_drop] at this
        have hsz : s.data.toList.length = s.size := by simp
        omega
      refine size_lexF f k' _ h1.2 ?_
      intro u hu
      rcases List.mem_append.1 hu with hu | hu
      · exact w u hu
      · rw [List.mem_singleton] at hu
        subst hu
        obtain ⟨_, _, _, h4⟩ := lexAt_tok hle h
        rw [h4, ext_size]
        omega
theorem size_lexS (s : ByteArray) : ∀ t, t ∈ (lexS s).1 → t.text.size ≤ s.size := size_lexF _ 0 [] (Nat.zero_le _) (by intro t ht; simp at ht)
theorem few43_hc (s : ByteArray) (n : Nat) (h : Hp) : HCp Tryd.prog 43 [.string s, .int .i64 (n : Int)] h (.string (if n < s.size then s.extract 0 n else s)) := by
  refine hcp_of mixed Tryd.func43 (by kernel_rfl) (t_spandrellaw4_few_eq s n) ?_
  unfold t_spandrellaw4_few
  refine cond_mk (fun g1 => ?_) (fun g1 => ?_)
  · have g1 := of_decide_eq_true g1
    refine need_of ⟨by omega, by omega, by omega⟩ ?_
    rw [show Int.toNat (n : Int) = n by omega, if_pos (by omega)]
    exact ⟨rfl, rfl⟩
  · have g1 := of_decide_eq_false g1
    rw [if_neg (by omega)]
    exact ⟨rfl, rfl⟩
theorem few_size (s : ByteArray) (n : Nat) : (if n < s.size then s.extract 0 n else s).size ≤ n := by
  split
  · rw [ext_size]; omega
  · omega
theorem SL.flat {h : Hp} {b : Nat} {e : TypeId} {sz : Nat} {a : Addr} {l c : Nat} {xs : List (List Value)} (s : SL h b e sz (some a) l c xs) : cellsAt h a 0 xs.flatten := by
  obtain ⟨g, pre, rest, rfl, hbg, hlc, hbox, hr⟩ := s.2.2
  refine hbox.cells _ ?_
  rw [List.drop_left, List.take_left]
theorem exprParses_hc (s : ByteArray) {h : Hp} (hp : Pow10 h) : HC Tryd.prog 14 #[.string s] h fun w h' => w = .bool true ∧ Ext h h' := by
  refine hcr_of (args := [.string s]) mixed Tryd.func14 (by kernel_rfl) (t_spandrellaw4_ExprParses_eq s) ?_
  unfold t_spandrellaw4_ExprParses
  refine call_str (few43_hc s 500 h) ?_
  have hsz := few_size s 500
  generalize (if 500 < s.size then s.extract 0 500 else s) = u at hsz
  refine call_of (tokens42_hc u h (by omega)) ?_
  rintro _ h1 ⟨p, l, c, q, m, d, rfl, s1, t1, e1⟩
  refine ⟨((p, l, c), (q, m, d), (((lexS u).2.2 : Int) == 0), ()), rfl, ?_⟩
  dsimp only [flat, unc, unc1, List.nil_append, List.cons_append]
  refine cond_mk (fun g1 => ?_) (fun g1 => ?_)
  · refine call_boolx (known44_hc (hp.keep e1 (by simp))) ?_
    intro h2 e2
    exact ⟨rfl, e1.trans e2⟩
  have hw := wf_lexS u
  have hlen := lexS_len u
  have hts := size_lexS u
  generalize (lexS u).1 = ts at s1 t1 hw hlen hts
  have hl : l = ts.length := by rw [s1.1, List.length_map]
  have hroom : ts.length ≤ 2 ^ 20 := by omega
  refine call_of (roomy45_hc (ts := ts) hl (fun hh => by subst hh; have := s1.2.2.2; simpa using this) (fun a ha => by subst ha; exact s1.flat) (by omega) (-7) ⟨#[]⟩ 0 0) ?_
  rintro _ h2 ⟨e2, g, rfl, hg, r2⟩
  refine ⟨((some ⟨g, 0, none⟩, l + 80, l + 80), ()), rfl, ?_⟩
  dsimp only [flat, unc, unc1, List.nil_append, List.cons_append]
  refine need_of ⟨by omega, by omega, by omega⟩ ?_
  have ea : (if l + 80 = 0 then some (⟨g, 0, none⟩ : Addr) else Option.map (fun a => Addr.add a 0) (some ⟨g, 0, none⟩)) = some ⟨g, 0, none⟩ := by
    rw [if_neg (by omega)]
    simp [Addr.add]
  rw [ea, show Int.toNat (l : Int) - 0 = l by omega, Nat.sub_zero]
  have f2 := r2.front (by rw [List.length_map]; exact hl.symm)
  refine call_of (parse46_hc f2.vw (fun i hi => (f2.blk hi).2) hw (by omega)) ?_
  rintro w3 h3 ⟨e3, v3⟩
  have hfin : ∀ h', Ext h h' → T.call Tryd.prog 44 [] false [(false, [.bool])] (fun (b : Bool) => T.ret (.bool b)) [] (fun w h' => w = .bool true ∧ Ext h h') h' := by
    intro h' e
    refine call_boolx (known44_hc (hp.keep e (by simp))) ?_
    intro h2 e2
    exact ⟨rfl, e.trans e2⟩
  have hv3 : ∃ x : Lin, ∃ p' l' c', ∃ e : Nat, w3 = Value.tuple #[linV p' l' c' x, .int .i64 (e : Int)] ∧ VwT h3 p' l' x.terms ∧ x.terms.length ≤ 2 ^ 40 ∧ (parseX ts = .ok x ∧ e = 0 ∨ parseX ts = .error e ∧ x = linZ) := by
    cases hpx : parseX ts with
    | error e =>
      rw [hpx] at v3
      exact ⟨linZ, none, 0, 0, e, v3, ⟨rfl, fun i hi => by simp [linZ] at hi⟩, by simp [linZ], .inr ⟨rfl, rfl⟩⟩
    | ok x =>
      rw [hpx] at v3
      obtain ⟨p', l', c', hv, sx, gx⟩ := v3
      refine ⟨x, p', l', c', 0, hv, sx.vwT, ?_, .inl ⟨rfl, rfl⟩⟩
      have := sumD_fine 32 ts hw
      unfold parseX at hpx
      cases hsd : sumD 32 ts with
      | error e => rw [hsd] at hpx; cases hpx
      | ok z =>
        obtain ⟨y, r⟩ := z
        rw [hsd] at hpx this
        simp only at hpx
        split at hpx
        · cases hpx
          obtain ⟨_, _, _, hl⟩ := this
          omega
        · cases hpx
  obtain ⟨x, p', l', c', e, rfl, vx, hxl, hres⟩ := hv3
  refine ⟨((p', l', c'), (x.num : Int), (e : Int), ()), rfl, ?_⟩
  dsimp only [flat, unc, unc1, List.nil_append, List.cons_append]
  refine newB ?_
  intro h4 b4 e4 z4
  refine stores_of b4 rfl (by simp) ?_
  intro h5 b5 k5 z5
  have b5 : Box h5 h3.size 69 [.slice p' l' c', .int .u32 (x.num : Int)] := b5
  have e35 : Ext h3 h5 := Ch.trans e4 k5 (fun j hj hl => by simp at hj; omega)
  have e15 := (e2.trans e3).trans e35
  have t5 := t1.keep' e15 (by simp)
  refine call_of (parse47_hc t5.vw (fun i hi => (t5.blk hi).2) hw (by omega) (fun t ht => by have := hts t ht; omega)) ?_
  rintro w6 h6 ⟨e6, v6⟩
  have hv6 : ∃ q' m' d', w6 = Value.tuple #[linV q' m' d' x, .int .i64 (e : Int)] ∧ VwT h6 q' m' x.terms := by
    rcases hres with ⟨hpx, rfl⟩ | ⟨hpx, rfl⟩
    · rw [hpx] at v6
      obtain ⟨q', m', d', hv, sx, gx⟩ := v6
      exact ⟨q', m', d', hv, sx.vwT⟩
    · rw [hpx] at v6
      exact ⟨none, 0, 0, v6, rfl, fun i hi => by simp [linZ] at hi⟩
  obtain ⟨q', m', d', rfl, vy⟩ := hv6
  refine ⟨((q', m', d'), (x.num : Int), (e : Int), ()), rfl, ?_⟩
  dsimp only [flat, unc, unc1, List.nil_append, List.cons_append]
  refine newB ?_
  intro h7 b7 e7 z7
  refine stores_of b7 rfl (by simp) ?_
  intro h8 b8 k8 z8
  have b8 : Box h8 h6.size 69 [.slice q' m' d', .int .u32 (x.num : Int)] := b8
  have e68 : Ext h6 h8 := Ch.trans e7 k8 (fun j hj hl => by simp at hj; omega)
  have e58 := e6.trans e68
  refine loads_box (b5.keep e58 (by simp)) ((p', l', c'), (x.num : Int), ()) rfl ?_
  dsimp only [flat, unc, unc1, List.nil_append, List.cons_append]
  refine loads_box b8 ((q', m', d'), (x.num : Int), ()) rfl ?_
  dsimp only [flat, unc, unc1, List.nil_append, List.cons_append]
  refine call_boolx (same48_hc (x := x) (y := x) ((vx.keep e35 (by simp)).keep e58 (by simp)) (vy.keep e68 (by simp)) (by omega)) ?_
  intro h9 e9
  rw [linB_refl]
  refine cond_t rfl (cond_t (by simp) ?_)
  have e29 := ((e3.trans e35).trans e58).trans e9
  refine call_boolx (intact49_hc (ts := ts) (-7) ⟨#[]⟩ 0 0 (r2.keep' e29 (by simp)) hl.symm ⟨_, s1.keep' (e2.trans e29) (by simp)⟩ (by omega)) ?_
  intro h10 e10
  refine cond_t rfl ?_
  exact hfin h10 (((e1.trans e2).trans e29).trans e10)
end Go.Sx
