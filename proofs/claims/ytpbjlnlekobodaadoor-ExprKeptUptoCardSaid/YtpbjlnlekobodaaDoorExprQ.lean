/- expr.Parse answers as the plain parser, over heaps. Condition: 2^40 tokens at most. -/
import Derived.Test.YtpbjlnlekobodaaDoorExprP
set_option linter.unusedVariables false
set_option linter.unusedSimpArgs false
set_option maxRecDepth 100000
namespace Go.Sx
open Go.Proofs
/-- What was read, and where the reader stands behind it. -/
def PostR (n : Nat) (d : Int) (x : Lin) (ts' : List Tok) (d' : Int) (e' : Nat) : PRes → Prop
  | .error e => e' = e ∧ e ≠ 0 ∧ x.terms.length ≤ n
  | .ok (y, r) => e' = 0 ∧ x = y ∧ ts' = r ∧ d' = d
def ResP (h : Hp) (A : Nat) (n : Nat) (d : Int) (res : PRes) (v : Value) (h' : Hp) : Prop :=
  Ch [A] h h' ∧ ∃ x p l c ts' d' e', v = linV p l c x ∧ SL h' h.size 80 2 p l c (x.terms.map encT) ∧ Good x ∧ PB h' A ts' d' e' ∧ PostR n d x ts' d' e' res
theorem hb29 : hasBody Tryd.prog 82 = true := by kernel_rfl
theorem cells_lin {h : Hp} {g : Nat} {p : Option Addr} {l c : Nat} {n : Int} (b : Box h g 69 [.slice p l c, .int .u32 n]) : True := trivial
theorem vwT_len {n m : Nat} (h : n ≤ m) (k : m ≤ 2 ^ 40) : n ≤ 2 ^ 40 := Nat.le_trans h k
/-- The state in the midst of a factor. -/
def FacJ (h : Hp) (A A1 A21 : Nat) (n : Nat) (d : Int) (res : PRes) (h' : Hp) : Prop :=
  Ch [A] h h' ∧ Box h' A1 69 [.slice none 0 0, .int .u32 0] ∧ ∃ x p l c ts' d' e', Box h' A21 69 [.slice p l c, .int .u32 (x.num : Int)] ∧ SL h' h.size 80 2 p l c (x.terms.map encT) ∧ Good x ∧ PB h' A ts' d' e' ∧ PostR n d x ts' d' e' res
theorem Cl.keepA {ws : List Nat} {h h' : Hp} {A a3 a4 a5 a6 : Nat} (c : Cl h A a3 a4 a5 a6) (k : Ch ws h h') (hw : ∀ i, i ∈ ws → i = A ∨ (a3 < i ∧ a4 < i ∧ a5 < i ∧ a6 < i)) : Cl h' A a3 a4 a5 a6 := by
  have := c.n3
  have := c.n4
  have := c.n5
  have := c.n6
  exact ⟨c.b3.keep k (fun hm => by have := hw _ hm; omega), c.b4.keep k (fun hm => by have := hw _ hm; omega), c.b5.keep k (fun hm => by have := hw _ hm; omega), c.b6.keep k (fun hm => by have := hw _ hm; omega), by omega, by omega, by omega, by omega⟩
def negV (b : Bool) : Nat := if b = true then 4294967295 else 1
theorem negV_wrap (b : Bool) : IntKind.wrap .u32 (0 - ((negV b : Nat) : Int)) = ((negV (!b) : Nat) : Int) := by cases b <;> decide
theorem negV_lin {x : Lin} (g : Good x) (b : Bool) : linTimes x (negV b) = negB b x := by
  rw [linTimes_eq g.nf]
  unfold negV negB
  cases b
  · exact linT_one g
  · rfl
theorem SL.vwT' {h : Hp} {b : Nat} {e : TypeId} {p : Option Addr} {l c : Nat} {us : Tms} (s : SL h b e 2 p l c (us.map encT)) : ∀ i, i ∈ blkOf p → i < h.size := fun i hi => (s.blk hi).2
theorem isS_kind {t : Tok} {c : UInt8} (h : isS t c = true) : t.kind = 3 := by
  unfold isS at h
  simp only [Bool.and_eq_true, beq_iff_eq] at h
  exact h.1
theorem wrap_small {d : Int} (h : -1000 ≤ d) (k : d ≤ 1000) : IntKind.wrap .i64 d = d := wrap_i64 (by omega) (by omega)
theorem fac_hc {A a3 a4 a5 a6 : Nat} {o : Option (List Tok → PRes)} {d : Nat} (hd : d ≤ 32)
    (ho : match o with
      | none => d = 32
      | some f => d < 32 ∧ ∀ h ts, Cl h A a3 a4 a5 a6 → PB h A ts (d + 1 : Nat) 0 → Wf ts → ts.length ≤ 2 ^ 40 → HC Tryd.prog 82 #[ptr a6, ptr a3] h (ResP h A ts.length (d + 1 : Nat) (f ts)))
    (hfine : ∀ f, o = some f → ∀ ts, Wf ts → Fine ts (f ts))
    {h : Hp} {ts : List Tok} (cl : Cl h A a3 a4 a5 a6) (pb : PB h A ts d 0) (w : Wf ts) (hts : ts.length ≤ 2 ^ 40) :
    HC Tryd.prog 78 #[ptr a3, ptr a4] h (ResP h A ts.length d (facG o ts)) := by
  refine hcr_of (args := [ptr a3, ptr a4]) mixed Tryd.func78 (by kernel_rfl) (t_expr_Parse_1_factor_eq ⟨a3, 0, none⟩ ⟨a4, 0, none⟩) ?_
  unfold t_expr_Parse_1_factor
  have hA := pb.lt
  have hcl := cl.lt
  refine newB ?_
  intro h1 b1 e1 z1
  refine loop_of (cs := [(false, [.int .u32])]) (fun y m h' => ∃ (b : Bool) (us : List Tok), y.1 = ((negV b : Nat) : Int) ∧ facG o ts = facN o b us ∧ Ch [A] h1 h' ∧ PB h' A us d 0 ∧ us <:+ ts ∧ m = us.length) ((1 : Int), ()) ts.length rfl
    ⟨false, ts, rfl, rfl, Ch.refl _ _, pb.keep e1 (by simp), List.suffix_refl _, rfl⟩ ?_
  rintro ⟨n2, ⟨⟩⟩ m h2 ⟨b, us, hn, hg, k2, pb2, hsuf, rfl⟩
  simp only at hn
  subst hn
  dsimp only [flat, unc, unc1, List.nil_append, List.cons_append]
  have hz2 := k2.size
  have cl1 := cl.keep e1 (by simp)
  have cl2 := cl1.keep k2 (by simp)
  have b12 := b1.keep k2 (by simp; omega)
  have k02 : Ch [A] h h2 := Ch.trans (e1.mono (by simp)) k2 (fun j hj _ => hj)
  have hus := hsuf.length_le
  have wus := w.suffix hsuf
  refine loads_box cl2.b3 (some ⟨A, 0, none⟩, ()) rfl ?_
  dsimp only [flat, unc, unc1, List.nil_append, List.cons_append]
  refine call_of (sign79_hc pb2 45) ?_
  rintro _ h3 ⟨rfl, k3, z3, pb3⟩
  refine ⟨(signB 0 us 45, ()), rfl, ?_⟩
  dsimp only [flat, unc, unc1, List.nil_append, List.cons_append]
  have k03 : Ch [A] h h3 := Ch.trans k02 k3 (fun j hj _ => hj)
  have cl3 := cl2.keep k3 (by simp)
  have b13 := b12.keep k3 (by simp; omega)
  refine cond_mk (fun g1 => ?_) (fun g1 => ?_)
  · rw [if_pos g1] at pb3
    cases us with
    | nil => cases g1
    | cons t r =>
      have g1 : isS t 45 = true := g1
      refine again_mk (cs := [(false, [.int .u32])]) (((negV (!b) : Nat) : Int), ()) r.length rfl (by simp) (congrArg (fun z => [Value.int .u32 z]) (negV_wrap b)) ⟨!b, r, rfl, ?_, Ch.trans k2 k3 (fun j hj _ => hj), pb3, (List.suffix_cons _ _).trans hsuf, rfl⟩
      rw [hg]
      show (if isS t 45 = true then facN o (!b) r else facS o b (t :: r)) = _
      rw [if_pos g1]
  · rw [if_neg (by rw [g1]; simp)] at pb3
    have hfs : facG o ts = facS o b us := by
      rw [hg]
      cases us with
      | nil => rfl
      | cons t r =>
        have g1 : isS t 45 = false := g1
        show (if isS t 45 = true then facN o (!b) r else facS o b (t :: r)) = _
        rw [if_neg (by rw [g1]; simp)]
    refine join_of (cs := [(false, [.bool])]) (fun y h' => y.1 = decide (us = []) ∧ h3 = h') ?_ ?_
    · refine loads_box cl3.b3 (some ⟨A, 0, none⟩, ()) rfl ?_
      dsimp only [flat, unc, unc1, List.nil_append, List.cons_append]
      obtain ⟨p, l, c, bA, v, hp⟩ := pb3
      refine osome_mk rfl ?_
      try rw [add_box]
      refine loads_box bA ((0 : Int), ()) rfl ?_
      dsimp only [flat, unc, unc1, List.nil_append, List.cons_append]
      refine cond_f rfl ?_
      refine loads_box cl3.b3 (some ⟨A, 0, none⟩, ()) rfl ?_
      dsimp only [flat, unc, unc1, List.nil_append, List.cons_append]
      refine osome_mk rfl ?_
      refine loads_box bA ((p, l, c), ()) rfl ?_
      dsimp only [flat, unc, unc1, List.nil_append, List.cons_append]
      refine meet_mk (cs := [(false, [.bool])]) (((l : Int) == 0), ()) rfl rfl ⟨?_, rfl⟩
      have := v.len
      cases us with
      | nil => simp only [List.length_nil] at this; subst this; rfl
      | cons t r =>
        simp only [List.length_cons] at this
        rw [decide_eq_false (by simp)]
        show ((l : Int) == 0) = false
        exact beq_eq_false_iff_ne.2 (by omega)
    · rintro ⟨b5, ⟨⟩⟩ h3' ⟨hb5, rfl⟩
      simp only at hb5
      subst hb5
      dsimp only [flat, unc, unc1, List.nil_append, List.cons_append]
      refine cond_mk (fun g2 => ?_) (fun g2 => ?_)
      · have g2 : us = [] := of_decide_eq_true g2
        subst g2
        refine loads_box cl3.b3 (some ⟨A, 0, none⟩, ()) rfl ?_
        dsimp only [flat, unc, unc1, List.nil_append, List.cons_append]
        refine call_of (refuse80_hc pb3 20) ?_
        rintro _ h4 ⟨rfl, k4, z4, pb4⟩
        refine ⟨(), rfl, ?_⟩
        dsimp only [flat, unc, unc1, List.nil_append, List.cons_append]
        refine stores_of (b13.keep k4 (by simp; omega)) rfl (by simp) ?_
        intro h5 b5 k5 z5
        have b5 : Box h5 h.size 69 [.slice none 0 0, .int .u32 0] := b5
        refine loads_box b5 ((none, 0, 0), (0 : Int), ()) rfl ?_
        rw [hfs]
        exact ⟨Ch.trans (Ch.trans k03 k4 (fun j hj _ => hj)) k5 (fun j hj hl => by simp at hj; omega), linZ, none, 0, 0, [], d, 20, rfl, SL.nil _ _ _ _, Good.z, pb4.keep k5 (by simp; omega), rfl, by simp, by simp [linZ]⟩
      · have g2 : us ≠ [] := of_decide_eq_false g2
        obtain ⟨t, r, rfl⟩ := List.exists_cons_of_ne_nil g2
        have wt := wus t (List.mem_cons_self ..)
        simp only [List.length_cons] at hus
        refine loads_box cl3.b3 (some ⟨A, 0, none⟩, ()) rfl ?_
        dsimp only [flat, unc, unc1, List.nil_append, List.cons_append]
        obtain ⟨p, l, c, bA, v, hp⟩ := pb3
        have hlen := v.len
        have hcap := v.cap
        simp only [List.length_cons] at hlen
        obtain ⟨a, rfl, hc⟩ := v.cells 0 (by simp)
        obtain ⟨c1, c2, c3⟩ := tok_cells (t := t) hc
        refine osome_mk rfl (loads_box bA ((some a, l, c), ()) rfl ?_)
        dsimp only [flat, unc, unc1, List.nil_append, List.cons_append]
        refine need_of ⟨by omega, by omega⟩ (osome_mk rfl (loads_of ((t.kind : Int), t.text, (t.num : Int), (t.at_ : Int), ()) c3 ?_))
        dsimp only [flat, unc, unc1, List.nil_append, List.cons_append]
        refine newB ?_
        intro h4 b4 e4 z4
        refine stores_of b4 rfl (by simp) ?_
        intro h5 b5 k5 z5
        have b5 : Box h5 h3.size 35 (enc t) := b5
        have hz3 := k03.size
        have k35 : Ext h3 h5 := Ch.trans e4 k5 (fun j hj hl => by simp at hj; omega)
        try rw [add_box]
        refine loads_box b5 (t.text, ()) rfl ?_
        dsimp only [flat, unc, unc1, List.nil_append, List.cons_append]
        refine call_ibb (register_hc t.text h5) ?_
        refine newB ?_
        intro h6 b6 e6 z6
        have k36 := k35.trans e6
        have k06 : Ch [A] h h6 := Ch.trans k03 k36 (by simp)
        have cl6 := cl3.keep k36 (by simp)
        have b16 := b13.keep k36 (by simp)
        have bt6 := b5.keep e6 (by simp)
        have pb6 : PB h6 A (t :: r) d 0 := PB.keep ⟨some a, l, c, bA, v, hp⟩ k36 (by simp)
        have hh1 : h.size < h3.size := by omega
        have hh6 : h5.size < h6.size := by omega
        refine join_of (cs := []) (fun y h' => FacJ h A h.size h5.size ts.length d (facH o (t :: r)) h') ?_ ?_
        · refine join_of (cs := [(false, [.bool])]) (fun y h' => y.1 = (decide (t.kind = 1) && (regL t.text.data.toList).2.2) ∧ h6 = h') ?_ ?_
          · refine loads_box bt6 ((t.kind : Int), ()) rfl ?_
            dsimp only [flat, unc, unc1, List.nil_append, List.cons_append]
            refine cond_mk (fun g3 => ?_) (fun g3 => ?_)
            · have g3 : (t.kind : Int) = 1 := by simpa using g3
              refine meet_mk (cs := [(false, [.bool])]) ((regL t.text.data.toList).2.2, ()) rfl rfl ⟨?_, rfl⟩
              rw [decide_eq_true (by omega)]
              rfl
            · have g3 : ¬ (t.kind : Int) = 1 := by simpa using g3
              refine meet_mk (cs := [(false, [.bool])]) (false, ()) rfl rfl ⟨?_, rfl⟩
              rw [decide_eq_false (by omega)]
              rfl
          · rintro ⟨b7, ⟨⟩⟩ h6' ⟨hb7, rfl⟩
            simp only at hb7
            subst hb7
            dsimp only [flat, unc, unc1, List.nil_append, List.cons_append]
            have refuse : ∀ (e : Nat), facH o (t :: r) = .error e → e ≠ 0 → ∀ (hx : Hp) (ts' : List Tok) (d' : Int) (e0 : Nat) (x : Lin) (p' : Option Addr) (l' c' : Nat) (kk : Nat), Ch [A] h hx → Cl hx A a3 a4 a5 a6 → Box hx h.size 69 [.slice none 0 0, .int .u32 0] →
                Box hx h5.size 69 [.slice p' l' c', .int .u32 (x.num : Int)] → SL hx h.size 80 2 p' l' c' (x.terms.map encT) → Good x → x.terms.length ≤ ts.length → PB hx A ts' d' e0 → (if e0 = 0 then kk else e0) = e → ∀ (L : Lp) (K : Value → Hp → Prop), L[1]? = some (fun vs h' => ∃ y : HVs (flat []), vs = parts [] (hvs _ y) ∧ FacJ h A h.size h5.size ts.length d (facH o (t :: r)) h') →
                (T.loads ⟨a3, 0, none⟩ [.pointer 118] fun (p23 : Option Addr) => T.call Tryd.prog 80 [.pointer p23, .int .i64 (kk : Int)] true [] (T.again 1 [])) L K hx := by
              intro e he he0 hx ts' d' e0 x p' l' c' kk kx clx b1x b21x sx gx lx pbx hkk L K hL
              refine loads_box clx.b3 (some ⟨A, 0, none⟩, ()) rfl ?_
              dsimp only [flat, unc, unc1, List.nil_append, List.cons_append]
              refine call_of (refuse80_hc pbx kk) ?_
              rintro _ h7 ⟨rfl, k7, z7, pb7⟩
              refine ⟨(), rfl, ?_⟩
              dsimp only [flat, unc, unc1, List.nil_append, List.cons_append]
              refine meet_mk (cs := []) () hL rfl ⟨Ch.trans kx k7 (fun j hj _ => hj), b1x.keep k7 (by simp; omega), x, p', l', c', ts', d', _, b21x.keep k7 (by simp; omega), sx.keep' k7 (fun j hj => by have := (sx.blk hj).1; simp; omega), gx, pb7, ?_⟩
              rw [he]
              exact ⟨hkk, he0, lx⟩
            have next : ∀ (x : Lin), facH o (t :: r) = .ok (x, r) → Good x → ∀ (hx : Hp) (p' : Option Addr) (l' c' : Nat), Ch [A] h hx → Cl hx A a3 a4 a5 a6 → Box hx h.size 69 [.slice none 0 0, .int .u32 0] → Box hx h5.size 69 [.slice p' l' c', .int .u32 (x.num : Int)] →
                SL hx h.size 80 2 p' l' c' (x.terms.map encT) → PB hx A (t :: r) d 0 → ∀ (L : Lp) (K : Value → Hp → Prop), L[1]? = some (fun vs h' => ∃ y : HVs (flat []), vs = parts [] (hvs _ y) ∧ FacJ h A h.size h5.size ts.length d (facH o (t :: r)) h') →
                (T.loads ⟨a3, 0, none⟩ [.pointer 118] fun (p31 : Option Addr) => T.loads ⟨a3, 0, none⟩ [.pointer 118] fun (p32 : Option Addr) => T.osome p32 fun (a33 : Addr) => T.loads a33 [.slice 35] fun (p34 : Option Addr) (l35 : Nat) (l36 : Nat) =>
                  T.need (((0 : Int) ≤ (1 : Int)) ∧ (((1 : Int) ≤ (l35 : Int)) ∧ ((l35 : Int) ≤ (l36 : Int)))) <| T.osome p31 fun (a37 : Addr) => T.stores a37 [.slice (if (l36 = 1) then p34 else (Option.map (fun a => Addr.add a 4) p34)) ((Int.toNat (l35 : Int)) - 1) (l36 - 1)] <| T.again 1 []) L K hx := by
              intro x he gx hx p' l' c' kx clx b1x b21x sx pbx L K hL
              obtain ⟨q, m, cq, bQ, vq, hq⟩ := pbx
              have hm := vq.len
              have hmc := vq.cap
              simp only [List.length_cons] at hm
              refine loads_box clx.b3 (some ⟨A, 0, none⟩, ()) rfl ?_
              dsimp only [flat, unc, unc1, List.nil_append, List.cons_append]
              refine loads_box clx.b3 (some ⟨A, 0, none⟩, ()) rfl ?_
              dsimp only [flat, unc, unc1, List.nil_append, List.cons_append]
              refine osome_mk rfl (loads_box bQ ((q, m, cq), ()) rfl ?_)
              dsimp only [flat, unc, unc1, List.nil_append, List.cons_append]
              refine need_of ⟨by omega, by omega, by omega⟩ (osome_mk rfl ?_)
              refine stores_of bQ rfl (by simp) ?_
              intro h7 b7 k7 z7
              refine meet_mk (cs := []) () hL rfl ⟨Ch.trans kx k7 (fun j hj _ => hj), b1x.keep k7 (by simp; omega), x, p', l', c', r, d, 0, b21x.keep k7 (by simp; omega), sx.keep' k7 (fun j hj => by have := (sx.blk hj).1; simp; omega), gx, ?_, ?_⟩
              · refine ⟨_, _, _, b7, ((vq.drop (k := 1) (by omega)).keep k7 ?_), ?_⟩
                · intro i hi hm
                  rw [blkOf_if] at hi
                  rw [List.mem_singleton] at hm
                  have := hq _ hi
                  omega
                · intro i hi
                  exact hq _ (by have := blkOf_if q cq 1 4; rw [← this]; exact hi)
              · rw [he]
                exact ⟨rfl, rfl, rfl, rfl⟩
            have fH : ∀ q, (if t.kind = 1 then if (regL t.text.data.toList).2.2 = true then (.error 20 : PRes) else .ok (⟨[(t.text, 1)], 0⟩, r)
                else if t.kind = 2 then .ok (⟨[], t.num⟩, r)
                else if isS t 40 = true then match o with
                  | none => .error 21
                  | some f => match f r with
                    | .error e => .error e
                    | .ok (x, r') => match r' with
                      | [] => .error 20
                      | t' :: r'' => if isS t' 41 = true then .ok (x, r'') else .error 20
                else .error 20) = q → facH o (t :: r) = q := fun q hq => hq
            refine cond_mk (fun g3 => ?_) (fun g3 => ?_)
            · simp only [Bool.and_eq_true, decide_eq_true_eq] at g3
              exact refuse 20 (fH _ (by rw [if_pos g3.1, if_pos g3.2])) (by omega) h6 (t :: r) d 0 linZ none 0 0 20 k06 cl6 b16 b6 (SL.nil _ _ _ _) Good.z (by simp [linZ]) pb6 rfl _ _ rfl
            · simp only [Bool.and_eq_false_iff, decide_eq_false_iff_not] at g3
              refine loads_box bt6 ((t.kind : Int), ()) rfl ?_
              dsimp only [flat, unc, unc1, List.nil_append, List.cons_append]
              refine cond_mk (fun g4 => ?_) (fun g4 => ?_)
              · have g4 : t.kind = 1 := by have : (t.kind : Int) = 1 := by simpa using g4
                                           omega
                have g5 : (regL t.text.data.toList).2.2 = false := by
                  rcases g3 with g3 | g3
                  · exact absurd g4 g3
                  · exact g3
                obtain ⟨hn0, hlg⟩ := wt.name g4
                rw [g5] at hlg
                try rw [add_box]
                refine loads_box bt6 (t.text, ()) rfl ?_
                dsimp only [flat, unc, unc1, List.nil_append, List.cons_append]
                refine call_of (named_hc t.text h6) ?_
                rintro _ h7 ⟨e7, p', l', c', rfl, s7⟩
                refine ⟨((p', l', c'), (0 : Int), ()), rfl, ?_⟩
                dsimp only [flat, unc, unc1, List.nil_append, List.cons_append]
                refine stores_of (b6.keep e7 (by simp)) rfl (by simp) ?_
                intro h8 b8 k8 z8
                have b8 : Box h8 h5.size 69 [.slice p' l' c', .int .u32 0] := b8
                try rw [add_box]
                refine loads_box b8 ((0 : Int), ()) rfl ?_
                dsimp only [flat, unc, unc1, List.nil_append, List.cons_append]
                try rw [add_box]
                refine loads_box ((bt6.keep e7 (by simp)).keep k8 (by simp; omega)) ((t.num : Int), ()) rfl ?_
                dsimp only [flat, unc, unc1, List.nil_append, List.cons_append]
                refine stores_of b8 rfl (by simp) ?_
                intro h9 b9 k9 z9
                have b9 : Box h9 h5.size 69 [.slice p' l' c', .int .u32 (IntKind.wrap .u32 (0 + (t.num : Int)))] := b9
                rw [hn0] at b9
                have k69 : Ch [h5.size] h6 h9 := Ch.trans (Ch.trans (e7.mono (by simp)) k8 (fun j hj _ => hj)) k9 (fun j hj _ => hj)
                have k79 : Ch [h5.size] h7 h9 := Ch.trans k8 k9 (fun j hj _ => hj)
                refine next ⟨[(t.text, 1)], 0⟩ (fH _ (by rw [if_pos g4, if_neg (by rw [g5]; simp)])) (good_named hlg) h9 p' l' c' (Ch.trans k06 k69 (fun j hj hl => by simp at hj; omega)) (cl6.keepA k69 (by simp; omega)) (b16.keep k69 (by simp; omega)) b9 ?_ (pb6.keep k69 (by simp; omega)) _ _ rfl
                exact (s7.keep' k79 (fun j hj => by have := (s7.blk hj).1; simp; omega)).mono (by omega)
              · have g4 : ¬ t.kind = 1 := by have : ¬ (t.kind : Int) = 1 := by simpa using g4
                                             omega
                refine loads_box bt6 ((t.kind : Int), ()) rfl ?_
                dsimp only [flat, unc, unc1, List.nil_append, List.cons_append]
                refine cond_mk (fun g5 => ?_) (fun g5 => ?_)
                · have g5 : t.kind = 2 := by have : (t.kind : Int) = 2 := by simpa using g5
                                             omega
                  try rw [add_box]
                  refine loads_box b6 ((0 : Int), ()) rfl ?_
                  dsimp only [flat, unc, unc1, List.nil_append, List.cons_append]
                  try rw [add_box]
                  refine loads_box bt6 ((t.num : Int), ()) rfl ?_
                  dsimp only [flat, unc, unc1, List.nil_append, List.cons_append]
                  refine stores_of b6 rfl (by simp) ?_
                  intro h9 b9 k9 z9
                  have b9 : Box h9 h5.size 69 [.slice none 0 0, .int .u32 (IntKind.wrap .u32 (0 + (t.num : Int)))] := b9
                  rw [Int.zero_add, wrap_u32 (by omega) (by have := wt.num; omega)] at b9
                  exact next ⟨[], t.num⟩ (fH _ (by rw [if_neg g4, if_pos g5])) ⟨Nf.nil, by simp, wt.num⟩ h9 none 0 0 (Ch.trans k06 k9 (fun j hj hl => by simp at hj; omega)) (cl6.keepA k9 (by simp; omega)) (b16.keep k9 (by simp; omega)) b9 (SL.nil _ _ _ _) (pb6.keep k9 (by simp; omega)) _ _ rfl
                · have g5 : ¬ t.kind = 2 := by have : ¬ (t.kind : Int) = 2 := by simpa using g5
                                               omega
                  refine loads_box cl6.b3 (some ⟨A, 0, none⟩, ()) rfl ?_
                  dsimp only [flat, unc, unc1, List.nil_append, List.cons_append]
                  refine call_of (sign79_hc pb6 40) ?_
                  rintro _ h7 ⟨rfl, k7, z7, pb7⟩
                  refine ⟨(signB 0 (t :: r) 40, ()), rfl, ?_⟩
                  dsimp only [flat, unc, unc1, List.nil_append, List.cons_append]
                  have k07 : Ch [A] h h7 := Ch.trans k06 k7 (fun j hj _ => hj)
                  have cl7 := cl6.keep k7 (by simp)
                  have b17 := b16.keep k7 (by simp; omega)
                  have b217 := b6.keep k7 (by simp; omega)
                  refine cond_mk (fun g6 => ?_) (fun g6 => ?_)
                  · rw [if_pos g6] at pb7
                    have g6 : isS t 40 = true := g6
                    have pb7 : PB h7 A r d 0 := pb7
                    obtain ⟨q, m, cq, bQ, vq, hq⟩ := pb7
                    refine loads_box cl7.b3 (some ⟨A, 0, none⟩, ()) rfl ?_
                    dsimp only [flat, unc, unc1, List.nil_append, List.cons_append]
                    refine osome_mk rfl ?_
                    try rw [add_box]
                    refine loads_box bQ ((d : Int), ()) rfl ?_
                    dsimp only [flat, unc, unc1, List.nil_append, List.cons_append]
                    refine osome_mk rfl ?_
                    try rw [add_box]
                    refine stores_of bQ rfl (by simp) ?_
                    intro h8 b8 k8 z8
                    have b8 : Box h8 A 118 [.slice q m cq, .int .i64 (IntKind.wrap .i64 ((d : Int) + 1)), .int .i64 (0 : Int)] := b8
                    rw [wrap_small (by omega) (by omega)] at b8
                    have cl8 := cl7.keep k8 (by simp)
                    have b18 := b17.keep k8 (by simp; omega)
                    have b218 := b217.keep k8 (by simp; omega)
                    have k08 : Ch [A] h h8 := Ch.trans k07 k8 (fun j hj _ => hj)
                    have pb8 : PB h8 A r (d + 1 : Nat) 0 := ⟨q, m, cq, b8, vq.keep k8 (fun i hi hm => by rw [List.mem_singleton] at hm; have := hq _ hi; omega), hq⟩
                    refine loads_box cl8.b3 (some ⟨A, 0, none⟩, ()) rfl ?_
                    dsimp only [flat, unc, unc1, List.nil_append, List.cons_append]
                    refine osome_mk rfl ?_
                    try rw [add_box]
                    refine loads_box b8 (((d : Int) + 1), ()) rfl ?_
                    dsimp only [flat, unc, unc1, List.nil_append, List.cons_append]
                    refine cond_mk (fun g7 => ?_) (fun g7 => ?_)
                    · have g7 := of_decide_eq_true g7
                      cases o with
                      | some f => simp only at ho; omega
                      | none =>
                        exact refuse 21 (fH _ (by rw [if_neg g4, if_neg g5, if_pos g6])) (by omega) h8 r (d + 1 : Nat) 0 linZ none 0 0 21 k08 cl8 b18 b218 (SL.nil _ _ _ _) Good.z (by simp [linZ]) pb8 rfl _ _ rfl
                    · have g7 := of_decide_eq_false g7
                      cases o with
                      | none => simp only at ho; omega
                      | some f =>
                        simp only at ho
                        obtain ⟨hd', hs⟩ := ho
                        refine loads_box cl8.b4 (.func (.func 82) #[] #[ptr a6, ptr a3], ()) rfl ?_
                        dsimp only [flat, unc, unc1, List.nil_append, List.cons_append]
                        have wr : Wf r := wus.tail
                        have hff := hfine f rfl r wr
                        have hrl : r.length + 1 ≤ ts.length := hus
                        refine callv_of (cap := [ptr a6, ptr a3]) hb29 rfl (hs h8 r cl8 pb8 wr (by omega)) ?_
                        rintro _ h9 ⟨k9, x, p', l', c', ts', d', e', rfl, s9, gx, pb9, post⟩
                        refine ⟨((p', l', c'), (x.num : Int), ()), rfl, ?_⟩
                        dsimp only [flat, unc, unc1, List.nil_append, List.cons_append]
                        have cl9 := cl8.keep k9 (by simp)
                        have b19 := b18.keep k9 (by simp; omega)
                        have hz8 := k08.size
                        have hb218 := b218.lt
                        refine stores_of (b218.keep k9 (by simp; omega)) rfl (by simp) ?_
                        intro h10 b10 k10 z10
                        have b10 : Box h10 h5.size 69 [.slice p' l' c', .int .u32 (x.num : Int)] := b10
                        have cl10 := cl9.keepA k10 (by simp; omega)
                        have b110 := b19.keep k10 (by simp; omega)
                        have pb10 := pb9.keep k10 (by simp; omega)
                        have s10 : SL h10 h.size 80 2 p' l' c' (x.terms.map encT) := (s9.keep' k10 (fun j hj => by have := (s9.blk hj).1; simp; omega)).mono hz8
                        have k010 : Ch [A] h h10 := Ch.trans (Ch.trans k08 k9 (fun j hj _ => hj)) k10 (fun j hj hl => by simp at hj; omega)
                        refine loads_box cl10.b3 (some ⟨A, 0, none⟩, ()) rfl ?_
                        dsimp only [flat, unc, unc1, List.nil_append, List.cons_append]
                        obtain ⟨q2, m2, cq2, bQ2, vq2, hq2⟩ := pb10
                        refine osome_mk rfl ?_
                        try rw [add_box]
                        refine loads_box bQ2 (d', ()) rfl ?_
                        dsimp only [flat, unc, unc1, List.nil_append, List.cons_append]
                        refine osome_mk rfl ?_
                        try rw [add_box]
                        refine stores_of bQ2 rfl (by simp) ?_
                        intro h11 b11 k11 z11
                        have b11 : Box h11 A 118 [.slice q2 m2 cq2, .int .i64 (IntKind.wrap .i64 (d' - 1)), .int .i64 (e' : Int)] := b11
                        have pb11 : PB h11 A ts' (IntKind.wrap .i64 (d' - 1)) e' := ⟨q2, m2, cq2, b11, vq2.keep k11 (fun i hi hm => by rw [List.mem_singleton] at hm; have := hq2 _ hi; omega), hq2⟩
                        have cl11 := cl10.keep k11 (by simp)
                        refine loads_box cl11.b3 (some ⟨A, 0, none⟩, ()) rfl ?_
                        dsimp only [flat, unc, unc1, List.nil_append, List.cons_append]
                        refine call_of (sign79_hc pb11 41) ?_
                        rintro _ h12 ⟨rfl, k12, z12, pb12⟩
                        refine ⟨(signB e' ts' 41, ()), rfl, ?_⟩
                        dsimp only [flat, unc, unc1, List.nil_append, List.cons_append]
                        have k1012 : Ch [A] h10 h12 := Ch.trans k11 k12 (fun j hj _ => hj)
                        have k012 : Ch [A] h h12 := Ch.trans k010 k1012 (fun j hj _ => hj)
                        have cl12 := cl11.keep k12 (by simp)
                        have b112 := b110.keep k1012 (by simp; omega)
                        have b12' := b10.keep k1012 (by simp; omega)
                        have s12 := s10.keep' k1012 (fun j hj => by have := (s10.blk hj).1; simp; omega)
                        refine cond_mk (fun g8 => ?_) (fun g8 => ?_)
                        · have g8 : signB e' ts' 41 = false := by simpa using g8
                          rw [if_neg (by rw [g8]; simp)] at pb12
                          revert post hff
                          cases hfr : f r with
                          | error e =>
                            rintro hff ⟨rfl, he0, hxl⟩
                            exact refuse e' (fH _ (by rw [if_neg g4, if_neg g5, if_pos g6]; simp only [hfr])) he0 h12 ts' _ e' x p' l' c' 20 k012 cl12 b112 b12' s12 gx (by omega) pb12 (by rw [if_neg he0]) _ _ rfl
                          | ok z =>
                            obtain ⟨y, r'⟩ := z
                            rintro ⟨_, _, _, hxl⟩ ⟨rfl, rfl, rfl, rfl⟩
                            refine refuse 20 (fH _ ?_) (by omega) h12 ts' _ 0 x p' l' c' 20 k012 cl12 b112 b12' s12 gx (by omega) pb12 rfl _ _ rfl
                            rw [if_neg g4, if_neg g5, if_pos g6]
                            simp only [hfr]
                            cases ts' with
                            | nil => rfl
                            | cons t' r'' =>
                              have g8 : isS t' 41 = false := g8
                              simp only
                              rw [if_neg (by rw [g8]; simp)]
                        · have g8 : signB e' ts' 41 = true := by simpa using g8
                          rw [if_pos g8] at pb12
                          have he0 : e' = 0 := by
                            unfold signB at g8
                            simp only [Bool.and_eq_true, decide_eq_true_eq] at g8
                            exact g8.1
                          revert post hff
                          cases hfr : f r with
                          | error e =>
                            rintro hff ⟨rfl, he, hxl⟩
                            exact absurd he0 he
                          | ok z =>
                            obtain ⟨y, r'⟩ := z
                            rintro ⟨_, _, _, hxl⟩ ⟨_, rfl, rfl, rfl⟩
                            subst he0
                            cases ts' with
                            | nil => cases g8
                            | cons t' r'' =>
                              have g8 : isS t' 41 = true := g8
                              refine meet_mk (cs := []) () rfl rfl ⟨k012, b112, x, p', l', c', r'', _, 0, b12', s12, gx, pb12, ?_⟩
                              rw [fH (.ok (x, r'')) (by rw [if_neg g4, if_neg g5, if_pos g6]; simp only [hfr]; rw [if_pos g8])]
                              refine ⟨rfl, rfl, rfl, ?_⟩
                              rw [wrap_small (by omega) (by omega)]
                              omega
                  · rw [if_neg (by rw [g6]; simp)] at pb7
                    have g6 : isS t 40 = false := g6
                    exact refuse 20 (fH _ (by rw [if_neg g4, if_neg g5, if_neg (by rw [g6]; simp)])) (by omega) h7 (t :: r) d 0 linZ none 0 0 20 k07 cl7 b17 b217 (SL.nil _ _ _ _) Good.z (by simp [linZ]) pb7 rfl _ _ rfl
        · rintro ⟨⟩ h7 ⟨k7, b17, x, p', l', c', ts', d', e', b217, s7, gx, pb7, post⟩
          dsimp only [flat, unc, unc1, List.nil_append, List.cons_append]
          have hxl : x.terms.length ≤ ts.length := by
            have hf := facH_fine hfine wus
            revert post hf
            cases facH o (t :: r) with
            | error e => exact fun hp hf => hp.2.2
            | ok q =>
              obtain ⟨y, r'⟩ := q
              rintro ⟨_, rfl, _, _⟩ ⟨_, _, _, hl⟩
              simp only [List.length_cons] at hl
              omega
          refine loads_box b217 ((p', l', c'), (x.num : Int), ()) rfl ?_
          dsimp only [flat, unc, unc1, List.nil_append, List.cons_append]
          refine call_of (times_hc s7.vwT (by omega) gx.size (negV b)) ?_
          rintro _ h8 ⟨e8, q, m, cq, rfl, s8⟩
          refine ⟨((q, m, cq), ((linTimes x (negV b)).num : Int), ()), rfl, ?_⟩
          dsimp only [flat, unc, unc1, List.nil_append, List.cons_append]
          refine stores_of (b17.keep e8 (by simp)) rfl (by simp) ?_
          intro h9 b9 k9 z9
          have b9 : Box h9 h.size 69 [.slice q m cq, .int .u32 ((linTimes x (negV b)).num : Int)] := b9
          refine loads_box b9 ((q, m, cq), ((linTimes x (negV b)).num : Int), ()) rfl ?_
          have hz7 := k7.size
          refine ⟨Ch.trans (Ch.trans k7 e8 (by simp)) k9 (fun j hj hl => by simp at hj; omega), linTimes x (negV b), q, m, cq, ts', d', e', rfl, ?_, ?_, ?_, ?_⟩
          · exact (s8.keep' k9 (fun j hj => by have := (s8.blk hj).1; have := b17.lt; simp; omega)).mono hz7
          · rw [negV_lin gx]; exact gx.neg b
          · exact (pb7.keep e8 (by simp)).keep k9 (by simp; omega)
          · rw [hfs, negV_lin gx]
            unfold facS
            revert post
            cases facH o (t :: r) with
            | error e => exact fun ⟨p1, p2, p3⟩ => ⟨p1, p2, Nat.le_trans (negB_length b x) p3⟩
            | ok q =>
              obtain ⟨y, r'⟩ := q
              rintro ⟨p1, rfl, p3, p4⟩
              exact ⟨p1, rfl, p3, p4⟩
end Go.Sx

set_option linter.unusedVariables false
set_option linter.unusedSimpArgs false
set_option maxRecDepth 100000
namespace Go.Sx
open Go.Proofs
/-- The state at a loop's head. -/
def LoopS (h : Hp) (A A1 A7 : Nat) (d : Int) (ts : List Tok) (q : PRes) (rest : Nat → Lin → List Tok → PRes) (m : Nat) (h' : Hp) : Prop :=
  Ch [A] h h' ∧ Box h' A1 69 [.slice none 0 0, .int .u32 0] ∧ ∃ x p l c ts' d' e', Box h' A7 69 [.slice p l c, .int .u32 (x.num : Int)] ∧ SL h' (A1 + 1) 80 2 p l c (x.terms.map encT) ∧ Good x ∧ PB h' A ts' d' e' ∧
    ((e' = 0 ∧ d' = d ∧ ∃ n, q = rest n x ts' ∧ ts'.length ≤ n ∧ ts' <:+ ts ∧ x.terms.length + ts'.length ≤ ts.length ∧ m = n + 1) ∨ (e' ≠ 0 ∧ q = .error e' ∧ x.terms.length ≤ ts.length ∧ m = 0))
theorem partL_stop {fac : List Tok → PRes} {n : Nat} {x : Lin} {ts : List Tok} (h : signB 0 ts 42 = false) : partL fac n x ts = .ok (x, ts) := by
  cases n with
  | zero => rfl
  | succ n =>
    cases ts with
    | nil => rfl
    | cons t r =>
      have h : isS t 42 = false := h
      unfold partL
      simp only
      rw [if_neg (by rw [h]; simp)]
def FacC (P : Program) (f : FuncId) (cap : List Value) (A a3 a4 a5 a6 d : Nat) (g : List Tok → PRes) : Prop :=
  ∀ h ts, Cl h A a3 a4 a5 a6 → PB h A ts d 0 → Wf ts → ts.length ≤ 2 ^ 40 → HC P f cap.toArray h (ResP h A ts.length d (g ts))
theorem hb78 : hasBody Tryd.prog 78 = true := by kernel_rfl
theorem hb81 : hasBody Tryd.prog 81 = true := by kernel_rfl
theorem linV_of {p : Option Addr} {l c : Nat} {x y : Lin} (h : x = y) : linV p l c x = linV p l c y := by rw [h]
theorem part_hc {A a3 a4 a5 a6 d : Nat} {fac : List Tok → PRes} (hfac : FacC Tryd.prog 78 [ptr a3, ptr a4] A a3 a4 a5 a6 d fac) (hfine : ∀ ts, Wf ts → Fine ts (fac ts)) :
    FacC Tryd.prog 81 [ptr a5, ptr a3] A a3 a4 a5 a6 d (partG fac) := by
  intro h ts cl pb w hts
  refine hcr_of (args := [ptr a5, ptr a3]) mixed Tryd.func81 (by kernel_rfl) (t_expr_Parse_2_part_eq ⟨a5, 0, none⟩ ⟨a3, 0, none⟩) ?_
  unfold t_expr_Parse_2_part
  have hA := pb.lt
  have hcl := cl.lt
  refine newB ?_
  intro h1 b1 e1 z1
  have cl1 := cl.keep e1 (by simp)
  refine loads_box cl1.b5 (.func (.func 78) #[] #[ptr a3, ptr a4], ()) rfl ?_
  dsimp only [flat, unc, unc1, List.nil_append, List.cons_append]
  refine callv_of (cap := [ptr a3, ptr a4]) hb78 rfl (hfac h1 ts cl1 (pb.keep e1 (by simp)) w hts) ?_
  rintro _ h2 ⟨k2, x, p, l, c, ts', d', e', rfl, s2, gx, pb2, post⟩
  refine ⟨((p, l, c), (x.num : Int), ()), rfl, ?_⟩
  dsimp only [flat, unc, unc1, List.nil_append, List.cons_append]
  refine newB ?_
  intro h3 b3 e3 z3
  refine stores_of b3 rfl (by simp) ?_
  intro h4 b4 k4 z4
  have b4 : Box h4 h2.size 69 [.slice p l c, .int .u32 (x.num : Int)] := b4
  have hz2 := k2.size
  have e24 : Ext h2 h4 := Ch.trans e3 k4 (fun j hj hl => by simp at hj; omega)
  have k04 : Ch [A] h h4 := Ch.trans (Ch.trans (e1.mono (by simp)) k2 (fun j hj _ => hj)) e24 (by simp)
  have b14 := (b1.keep k2 (by simp; omega)).keep e24 (by simp)
  have hrest : ∀ h', Ch [A] h h' → Cl h' A a3 a4 a5 a6 := fun h' k => cl.keep k (by simp)
  have hmid : ∀ e0, e0 ∈ [(0 : Nat)] → True := fun _ _ => trivial
  have start : ∃ m, LoopS h A h.size h2.size d ts (partG fac ts) (partL fac) m h4 := by
    have hf := hfine ts w
    revert post hf
    unfold partG
    cases hfr : fac ts with
    | error e =>
      rintro ⟨he, he0, hxl⟩ _
      exact ⟨0, k04, b14, x, p, l, c, ts', d', e', b4, (s2.keep' e24 (by simp)).mono (by omega), gx, pb2.keep e24 (by simp), .inr ⟨by omega, by rw [he], hxl, rfl⟩⟩
    | ok z =>
      obtain ⟨y, r⟩ := z
      rintro ⟨rfl, rfl, rfl, rfl⟩ ⟨_, hs, hl, hn⟩
      exact ⟨_, k04, b14, x, p, l, c, ts', _, 0, b4, (s2.keep' e24 (by simp)).mono (by omega), gx, pb2.keep e24 (by simp), .inl ⟨rfl, rfl, ts'.length, rfl, Nat.le_refl _, hs, hn, rfl⟩⟩
  obtain ⟨m0, start⟩ := start
  refine loop_of (cs := []) (fun y m h' => LoopS h A h.size h2.size d ts (partG fac ts) (partL fac) m h') () m0 rfl start ?_
  rintro ⟨⟩ m h5 ⟨k5, b15, x, p, l, c, ts', d', e', b5, s5, gx, pb5, cas⟩
  dsimp only [flat, unc, unc1, List.nil_append, List.cons_append]
  have cl5 := hrest h5 k5
  have hh2 : h2.size < h5.size := b5.lt
  have hz5 := k5.size
  refine loads_box cl5.b3 (some ⟨A, 0, none⟩, ()) rfl ?_
  dsimp only [flat, unc, unc1, List.nil_append, List.cons_append]
  refine call_of (sign79_hc pb5 42) ?_
  rintro _ h6 ⟨rfl, k6, z6, pb6⟩
  refine ⟨(signB e' ts' 42, ()), rfl, ?_⟩
  dsimp only [flat, unc, unc1, List.nil_append, List.cons_append]
  have k06 : Ch [A] h h6 := Ch.trans k5 k6 (fun j hj _ => hj)
  have cl6 := hrest h6 k06
  have b16 := b15.keep k6 (by simp; omega)
  have b6 := b5.keep k6 (by simp; omega)
  have s6 := s5.keep' k6 (fun j hj => by have := (s5.blk hj).1; simp; omega)
  refine cond_mk (fun g1 => ?_) (fun g1 => ?_)
  · rw [if_pos g1] at pb6
    have he0 : e' = 0 := by
      unfold signB at g1
      simp only [Bool.and_eq_true, decide_eq_true_eq] at g1
      exact g1.1
    rcases cas with ⟨_, rfl, n, hq, hn, hsuf, hxn, rfl⟩ | ⟨h0, _⟩
    case inr => exact absurd he0 h0
    subst he0
    cases ts' with
    | nil => cases g1
    | cons t r =>
      have g1 : isS t 42 = true := g1
      simp only [List.length_cons] at hn hxn
      obtain ⟨n', rfl⟩ : ∃ n', n = n' + 1 := ⟨n - 1, by omega⟩
      have pb6 : PB h6 A r d 0 := pb6
      have wr : Wf r := (w.suffix hsuf).tail
      have hpl : partG fac ts = match fac r with
        | .error e => .error e
        | .ok (y, r'') => if x.terms ≠ [] ∧ y.terms ≠ [] then .error 21 else if y.terms ≠ [] then partL fac n' (linT y x.num) r'' else partL fac n' (linT x y.num) r'' := by
        rw [hq]
        show (if isS t 42 = true then _ else _) = _
        rw [if_pos g1]
        cases fac r <;> rfl
      refine loads_box cl6.b5 (.func (.func 78) #[] #[ptr a3, ptr a4], ()) rfl ?_
      dsimp only [flat, unc, unc1, List.nil_append, List.cons_append]
      refine callv_of (cap := [ptr a3, ptr a4]) hb78 rfl (hfac h6 r cl6 pb6 wr (by omega)) ?_
      rintro _ h7 ⟨k7, y, p', l', c', ts', d', e', rfl, s7, gy, pb7, post⟩
      refine ⟨((p', l', c'), (y.num : Int), ()), rfl, ?_⟩
      dsimp only [flat, unc, unc1, List.nil_append, List.cons_append]
      have hz7 := k7.size
      refine newB ?_
      intro h8 b8 e8 z8
      refine stores_of b8 rfl (by simp) ?_
      intro h9 b9 k9 z9
      have b9 : Box h9 h7.size 69 [.slice p' l' c', .int .u32 (y.num : Int)] := b9
      have e79 : Ext h7 h9 := Ch.trans e8 k9 (fun j hj hl => by simp at hj; omega)
      have k69 : Ch [A] h6 h9 := Ch.trans k7 e79 (by simp)
      have k09 : Ch [A] h h9 := Ch.trans k06 k69 (fun j hj _ => hj)
      have cl9 := hrest h9 k09
      have pb9 := pb7.keep e79 (by simp)
      have b19 := b16.keep k69 (by simp; omega)
      have bx9 := b6.keep k69 (by simp; omega)
      have sx9 := s6.keep' k69 (fun j hj => by have := (s6.blk hj).1; simp; omega)
      have sy9 := (s7.keep' e79 (by simp)).mono (b' := h.size + 1) (by omega)
      refine loads_box cl9.b3 (some ⟨A, 0, none⟩, ()) rfl ?_
      dsimp only [flat, unc, unc1, List.nil_append, List.cons_append]
      obtain ⟨q, mq, cq, bQ, vq, hqq⟩ := pb9
      have pb9 : PB h9 A ts' d' e' := ⟨q, mq, cq, bQ, vq, hqq⟩
      refine osome_mk rfl ?_
      rw [add_box]
      refine loads_box bQ ((e' : Int), ()) rfl ?_
      dsimp only [flat, unc, unc1, List.nil_append, List.cons_append]
      refine cond_mk (fun g2 => ?_) (fun g2 => ?_)
      · have g2 : ¬ e' = 0 := by simpa using g2
        refine again_mk (cs := []) () 0 rfl (by omega) rfl ⟨k09, b19, x, p, l, c, ts', d', e', bx9, sx9, gx, pb9, .inr ⟨g2, ?_, by omega, rfl⟩⟩
        rw [hpl]
        revert post
        cases fac r with
        | error e => rintro ⟨he, _, _⟩; rw [he]
        | ok z => obtain ⟨_, _⟩ := z; rintro ⟨he, _, _, _⟩; exact absurd he g2
      · have g2 : e' = 0 := by simpa using g2
        subst g2
        have hff := hfine r wr
        revert post hff
        cases hfr : fac r with
        | error e => rintro ⟨rfl, he, _⟩ _; exact absurd rfl he
        | ok z =>
          obtain ⟨y', r''⟩ := z
          rintro ⟨_, rfl, rfl, rfl⟩ ⟨_, hs2, hl2, hn2⟩
          rw [hfr] at hpl
          simp only at hpl
          have hlx : l = x.terms.length := by rw [sx9.1, List.length_map]
          have hly : l' = y.terms.length := by rw [sy9.1, List.length_map]
          have hsuf2 : ts' <:+ ts := (hs2.trans (List.suffix_cons _ _)).trans hsuf
          refine join_of (cs := [(false, [.bool])]) (fun z h' => z.1 = (decide (x.terms ≠ []) && decide (y.terms ≠ [])) ∧ h9 = h') ?_ ?_
          · refine loads_box bx9 ((p, l, c), ()) rfl ?_
            dsimp only [flat, unc, unc1, List.nil_append, List.cons_append]
            refine cond_mk (fun g3 => ?_) (fun g3 => ?_)
            · have g3 := of_decide_eq_true g3
              refine loads_box b9 ((p', l', c'), ()) rfl ?_
              dsimp only [flat, unc, unc1, List.nil_append, List.cons_append]
              refine meet_mk (cs := [(false, [.bool])]) (decide ((l' : Int) > 0), ()) rfl rfl ⟨?_, rfl⟩
              have hx0 : x.terms ≠ [] := fun hh => by rw [hh] at hlx; simp at hlx; omega
              rw [decide_eq_true hx0, Bool.true_and]
              cases hy0 : y.terms with
              | nil => rw [hy0] at hly; simp at hly; subst hly; rfl
              | cons a b =>
                rw [hy0] at hly
                simp only [List.length_cons] at hly
                show decide ((l' : Int) > 0) = decide (a :: b ≠ [])
                rw [decide_eq_true (by omega), decide_eq_true (by simp)]
            · have g3 := of_decide_eq_false g3
              refine meet_mk (cs := [(false, [.bool])]) (false, ()) rfl rfl ⟨?_, rfl⟩
              have hx0 : x.terms = [] := List.length_eq_zero_iff.1 (by omega)
              rw [hx0]
              rfl
          · rintro ⟨b10, ⟨⟩⟩ h9' ⟨hb10, rfl⟩
            simp only at hb10
            subst hb10
            dsimp only [flat, unc, unc1, List.nil_append, List.cons_append]
            refine cond_mk (fun g3 => ?_) (fun g3 => ?_)
            · simp only [Bool.and_eq_true, decide_eq_true_eq] at g3
              rw [if_pos g3] at hpl
              refine loads_box cl9.b3 (some ⟨A, 0, none⟩, ()) rfl ?_
              dsimp only [flat, unc, unc1, List.nil_append, List.cons_append]
              refine call_of (refuse80_hc pb9 21) ?_
              rintro _ h10 ⟨rfl, k10, z10, pb10⟩
              refine ⟨(), rfl, ?_⟩
              dsimp only [flat, unc, unc1, List.nil_append, List.cons_append]
              refine again_mk (cs := []) () 0 rfl (by omega) rfl ⟨Ch.trans k09 k10 (fun j hj _ => hj), b19.keep k10 (by simp; omega), x, p, l, c, ts', _, 21, bx9.keep k10 (by simp; omega), sx9.keep' k10 (fun j hj => by have := (sx9.blk hj).1; simp; omega), gx, pb10, .inr ⟨by omega, hpl, by omega, rfl⟩⟩
            · rw [if_neg (by intro hh; rw [decide_eq_true hh.1, decide_eq_true hh.2] at g3; cases g3)] at hpl
              refine loads_box b9 ((p', l', c'), ()) rfl ?_
              dsimp only [flat, unc, unc1, List.nil_append, List.cons_append]
              have hh9 := b9.lt
              refine cond_mk (fun g4 => ?_) (fun g4 => ?_)
              · have g4 := of_decide_eq_true g4
                rw [if_pos (by intro hh; rw [hh] at hly; simp at hly; omega)] at hpl
                refine loads_box b9 ((p', l', c'), (y.num : Int), ()) rfl ?_
                dsimp only [flat, unc, unc1, List.nil_append, List.cons_append]
                rw [add_box]
                refine loads_box bx9 ((x.num : Int), ()) rfl ?_
                dsimp only [flat, unc, unc1, List.nil_append, List.cons_append]
                refine call_of (times_hc sy9.vwT (by omega) gy.size x.num) ?_
                rintro _ h10 ⟨e10, q', m', cq', rfl, s10⟩
                rw [linTimes_eq gy.nf] at s10 ⊢
                refine ⟨((q', m', cq'), ((linT y x.num).num : Int), ()), rfl, ?_⟩
                dsimp only [flat, unc, unc1, List.nil_append, List.cons_append]
                refine stores_of (bx9.keep e10 (by simp)) rfl (by simp) ?_
                intro h11 b11 k11 z11
                have b11 : Box h11 h2.size 69 [.slice q' m' cq', .int .u32 ((linT y x.num).num : Int)] := b11
                have hz9 := k09.size
                have hz69 := k69.size
                have k911 : Ch [h2.size] h9 h11 := Ch.trans (e10.mono (by simp)) k11 (fun j hj _ => hj)
                have htl := timesN_length x.num y.terms
                refine again_mk (cs := []) () (n' + 1) rfl (by omega) rfl ⟨Ch.trans k09 k911 (fun j hj hl => by simp at hj; omega), b19.keep k911 (by simp; omega), linT y x.num, q', m', cq', ts', _, 0, b11, (s10.keep' k11 (fun j hj => by have := (s10.blk hj).1; simp; omega)).mono (by omega), gy.T _, pb9.keep k911 (by simp; omega),
                  .inl ⟨rfl, rfl, n', hpl, by omega, hsuf2, ?_, rfl⟩⟩
                show (timesN x.num y.terms).length + ts'.length ≤ ts.length
                omega
              · have g4 := of_decide_eq_false g4
                rw [if_neg (by intro hh; exact hh (List.length_eq_zero_iff.1 (by omega)))] at hpl
                refine loads_box bx9 ((p, l, c), (x.num : Int), ()) rfl ?_
                dsimp only [flat, unc, unc1, List.nil_append, List.cons_append]
                rw [add_box]
                refine loads_box b9 ((y.num : Int), ()) rfl ?_
                dsimp only [flat, unc, unc1, List.nil_append, List.cons_append]
                refine call_of (times_hc sx9.vwT (by omega) gx.size y.num) ?_
                rintro _ h10 ⟨e10, q', m', cq', rfl, s10⟩
                rw [linTimes_eq gx.nf] at s10 ⊢
                refine ⟨((q', m', cq'), ((linT x y.num).num : Int), ()), rfl, ?_⟩
                dsimp only [flat, unc, unc1, List.nil_append, List.cons_append]
                refine stores_of (bx9.keep e10 (by simp)) rfl (by simp) ?_
                intro h11 b11 k11 z11
                have b11 : Box h11 h2.size 69 [.slice q' m' cq', .int .u32 ((linT x y.num).num : Int)] := b11
                have hz9 := k09.size
                have hz69 := k69.size
                have k911 : Ch [h2.size] h9 h11 := Ch.trans (e10.mono (by simp)) k11 (fun j hj _ => hj)
                have htl := timesN_length y.num x.terms
                refine again_mk (cs := []) () (n' + 1) rfl (by omega) rfl ⟨Ch.trans k09 k911 (fun j hj hl => by simp at hj; omega), b19.keep k911 (by simp; omega), linT x y.num, q', m', cq', ts', _, 0, b11, (s10.keep' k11 (fun j hj => by have := (s10.blk hj).1; simp; omega)).mono (by omega), gx.T _, pb9.keep k911 (by simp; omega),
                  .inl ⟨rfl, rfl, n', hpl, by omega, hsuf2, ?_, rfl⟩⟩
                show (timesN y.num x.terms).length + ts'.length ≤ ts.length
                omega
  · rw [if_neg (by rw [g1]; simp)] at pb6
    refine loads_box b6 ((p, l, c), (x.num : Int), ()) rfl ?_
    dsimp only [flat, unc, unc1, List.nil_append, List.cons_append]
    refine stores_of b16 rfl (by simp) ?_
    intro h7 b7 k7 z7
    have b7 : Box h7 h.size 69 [.slice p l c, .int .u32 (x.num : Int)] := b7
    refine loads_box b7 ((p, l, c), (x.num : Int), ()) rfl ?_
    refine ⟨Ch.trans k06 k7 (fun j hj hl => by simp at hj; omega), x, p, l, c, ts', d', e', rfl, ?_, gx, pb6.keep k7 (by simp; omega), ?_⟩
    · exact (s6.keep' k7 (fun j hj => by have := (s6.blk hj).1; simp; omega)).mono (by omega)
    · rcases cas with ⟨rfl, rfl, n, hq, hn, hsuf, hxn, rfl⟩ | ⟨h0, hq, hxl, rfl⟩
      · rw [hq, partL_stop g1]
        exact ⟨rfl, rfl, rfl, rfl⟩
      · rw [hq]
        exact ⟨rfl, h0, hxl⟩
end Go.Sx

set_option linter.unusedVariables false
set_option linter.unusedSimpArgs false
set_option maxRecDepth 100000
namespace Go.Sx
open Go.Proofs
theorem sumL_stop {part : List Tok → PRes} {n : Nat} {x : Lin} {ts : List Tok} (h : signB 0 ts 43 = false) (k : signB 0 ts 45 = false) : sumL part n x ts = .ok (x, ts) := by
  cases n with
  | zero => rfl
  | succ n =>
    cases ts with
    | nil => rfl
    | cons t r =>
      have h : isS t 43 = false := h
      have k : isS t 45 = false := k
      unfold sumL
      simp only
      rw [if_neg (by rw [h]; simp), if_neg (by rw [k]; simp)]
theorem sum_hc {A a3 a4 a5 a6 d : Nat} {part : List Tok → PRes} (hpart : FacC Tryd.prog 81 [ptr a5, ptr a3] A a3 a4 a5 a6 d part) (hfine : ∀ ts, Wf ts → Fine ts (part ts)) :
    FacC Tryd.prog 82 [ptr a6, ptr a3] A a3 a4 a5 a6 d (sumG part) := by
  intro h ts cl pb w hts
  refine hcr_of (args := [ptr a6, ptr a3]) mixed Tryd.func82 (by kernel_rfl) (t_expr_Parse_3_sum_eq ⟨a6, 0, none⟩ ⟨a3, 0, none⟩) ?_
  unfold t_expr_Parse_3_sum
  have hA := pb.lt
  have hcl := cl.lt
  refine newB ?_
  intro h1 b1 e1 z1
  have cl1 := cl.keep e1 (by simp)
  refine loads_box cl1.b6 (.func (.func 81) #[] #[ptr a5, ptr a3], ()) rfl ?_
  dsimp only [flat, unc, unc1, List.nil_append, List.cons_append]
  refine callv_of (cap := [ptr a5, ptr a3]) hb81 rfl (hpart h1 ts cl1 (pb.keep e1 (by simp)) w hts) ?_
  rintro _ h2 ⟨k2, x, p, l, c, ts', d', e', rfl, s2, gx, pb2, post⟩
  refine ⟨((p, l, c), (x.num : Int), ()), rfl, ?_⟩
  dsimp only [flat, unc, unc1, List.nil_append, List.cons_append]
  refine newB ?_
  intro h3 b3 e3 z3
  refine stores_of b3 rfl (by simp) ?_
  intro h4 b4 k4 z4
  have b4 : Box h4 h2.size 69 [.slice p l c, .int .u32 (x.num : Int)] := b4
  have hz2 := k2.size
  have e24 : Ext h2 h4 := Ch.trans e3 k4 (fun j hj hl => by simp at hj; omega)
  have k04 : Ch [A] h h4 := Ch.trans (Ch.trans (e1.mono (by simp)) k2 (fun j hj _ => hj)) e24 (by simp)
  have b14 := (b1.keep k2 (by simp; omega)).keep e24 (by simp)
  have hrest : ∀ h', Ch [A] h h' → Cl h' A a3 a4 a5 a6 := fun h' k => cl.keep k (by simp)
  have start : ∃ m, LoopS h A h.size h2.size d ts (sumG part ts) (sumL part) m h4 := by
    have hf := hfine ts w
    revert post hf
    unfold sumG
    cases hfr : part ts with
    | error e =>
      rintro ⟨he, he0, hxl⟩ _
      exact ⟨0, k04, b14, x, p, l, c, ts', d', e', b4, (s2.keep' e24 (by simp)).mono (by omega), gx, pb2.keep e24 (by simp), .inr ⟨by omega, by rw [he], hxl, rfl⟩⟩
    | ok z =>
      obtain ⟨y, r⟩ := z
      rintro ⟨rfl, rfl, rfl, rfl⟩ ⟨_, hs, hl, hn⟩
      exact ⟨_, k04, b14, x, p, l, c, ts', _, 0, b4, (s2.keep' e24 (by simp)).mono (by omega), gx, pb2.keep e24 (by simp), .inl ⟨rfl, rfl, ts'.length, rfl, Nat.le_refl _, hs, hn, rfl⟩⟩
  obtain ⟨m0, start⟩ := start
  refine loop_of (cs := []) (fun y m h' => LoopS h A h.size h2.size d ts (sumG part ts) (sumL part) m h') () m0 rfl start ?_
  rintro ⟨⟩ m h5 ⟨k5, b15, x, p, l, c, ts', d', e', b5, s5, gx, pb5, cas⟩
  dsimp only [flat, unc, unc1, List.nil_append, List.cons_append]
  have cl5 := hrest h5 k5
  have hh2 : h2.size < h5.size := b5.lt
  have hz5 := k5.size
  have out : ∀ hx, Ch [A] h5 hx → PB hx A ts' d' e' → PostR ts.length d x ts' d' e' (sumG part ts) → ∀ L, (T.loads ⟨h2.size, 0, none⟩ [.slice 80, .int .u32] fun (p15 : Option Addr) (l16 : Nat) (l17 : Nat) (n18 : Int) =>
      T.stores ⟨h.size, 0, none⟩ [.slice p15 l16 l17, .int .u32 n18] <| T.loads ⟨h.size, 0, none⟩ [.slice 80, .int .u32] <| fun (p19 : Option Addr) (l20 : Nat) (l21 : Nat) (n22 : Int) => T.ret (.agg #[.slice p19 l20 l21, .int .u32 n22])) L (ResP h A ts.length d (sumG part ts)) hx := by
    intro hx kx pbx post L
    have hzx := kx.size
    refine loads_box (b5.keep kx (by simp; omega)) ((p, l, c), (x.num : Int), ()) rfl ?_
    dsimp only [flat, unc, unc1, List.nil_append, List.cons_append]
    refine stores_of (b15.keep kx (by simp; omega)) rfl (by simp) ?_
    intro h7 b7 k7 z7
    have b7 : Box h7 h.size 69 [.slice p l c, .int .u32 (x.num : Int)] := b7
    refine loads_box b7 ((p, l, c), (x.num : Int), ()) rfl ?_
    have sx := s5.keep' kx (fun j hj => by have := (s5.blk hj).1; simp; omega)
    refine ⟨Ch.trans (Ch.trans k5 kx (fun j hj _ => hj)) k7 (fun j hj hl => by simp at hj; omega), x, p, l, c, ts', d', e', rfl, (sx.keep' k7 (fun j hj => by have := (sx.blk hj).1; simp; omega)).mono (by omega), gx, pbx.keep k7 (by simp; omega), post⟩
  refine loads_box cl5.b3 (some ⟨A, 0, none⟩, ()) rfl ?_
  dsimp only [flat, unc, unc1, List.nil_append, List.cons_append]
  obtain ⟨q, mq, cq, bQ, vq, hqq⟩ := pb5
  have pb5 : PB h5 A ts' d' e' := ⟨q, mq, cq, bQ, vq, hqq⟩
  refine osome_mk rfl ?_
  rw [add_box]
  refine loads_box bQ ((e' : Int), ()) rfl ?_
  dsimp only [flat, unc, unc1, List.nil_append, List.cons_append]
  refine cond_mk (fun g0 => ?_) (fun g0 => ?_)
  case refine_2 =>
    have g0 : ¬ e' = 0 := by simpa using g0
    rcases cas with ⟨h0, _⟩ | ⟨_, hq, hxl, rfl⟩
    · exact absurd h0 g0
    · exact out h5 (Ch.refl _ _) pb5 (by rw [hq]; exact ⟨rfl, g0, hxl⟩) _
  have g0 : e' = 0 := by simpa using g0
  rcases cas with ⟨_, rfl, n, hq, hn, hsuf, hxn, rfl⟩ | ⟨h0, _⟩
  case inr => exact absurd g0 h0
  subst g0
  refine loads_box cl5.b3 (some ⟨A, 0, none⟩, ()) rfl ?_
  dsimp only [flat, unc, unc1, List.nil_append, List.cons_append]
  refine call_of (sign79_hc pb5 43) ?_
  rintro _ h6 ⟨rfl, k6, z6, pb6⟩
  refine ⟨(signB 0 ts' 43, ()), rfl, ?_⟩
  dsimp only [flat, unc, unc1, List.nil_append, List.cons_append]
  refine cond_mk (fun g1 => ?_) (fun g1 => ?_)
  · rw [if_pos g1] at pb6
    have k06 : Ch [A] h h6 := Ch.trans k5 k6 (fun j hj _ => hj)
    have cl6 := hrest h6 k06
    have b16 := b15.keep k6 (by simp; omega)
    have b6 := b5.keep k6 (by simp; omega)
    have s6 := s5.keep' k6 (fun j hj => by have := (s5.blk hj).1; simp; omega)
    cases ts' with
    | nil => cases g1
    | cons t r =>
      have g1 : isS t 43 = true := g1
      simp only [List.length_cons] at hn hxn
      obtain ⟨n', rfl⟩ : ∃ n', n = n' + 1 := ⟨n - 1, by omega⟩
      have pb6 : PB h6 A r d 0 := pb6
      have wr : Wf r := (w.suffix hsuf).tail
      have hpl : sumG part ts = match part r with
        | .error e => .error e
        | .ok (y, r'') => sumL part n' (linA x y) r'' := by
        rw [hq]
        show (if isS t 43 = true then _ else _) = _
        rw [if_pos g1]
        cases part r <;> rfl
      refine loads_box b6 ((p, l, c), (x.num : Int), ()) rfl ?_
      dsimp only [flat, unc, unc1, List.nil_append, List.cons_append]
      refine loads_box cl6.b6 (.func (.func 81) #[] #[ptr a5, ptr a3], ()) rfl ?_
      dsimp only [flat, unc, unc1, List.nil_append, List.cons_append]
      refine callv_of (cap := [ptr a5, ptr a3]) hb81 rfl (hpart h6 r cl6 pb6 wr (by omega)) ?_
      rintro _ h7 ⟨k7, y, p', l', c', ts', d', e', rfl, s7, gy, pb7, post⟩
      refine ⟨((p', l', c'), (y.num : Int), ()), rfl, ?_⟩
      dsimp only [flat, unc, unc1, List.nil_append, List.cons_append]
      have hz7 := k7.size
      have k07 : Ch [A] h h7 := Ch.trans k06 k7 (fun j hj _ => hj)
      have cl7 := hrest h7 k07
      have b17 := b16.keep k7 (by simp; omega)
      have bx7 := b6.keep k7 (by simp; omega)
      have sx7 := s6.keep' k7 (fun j hj => by have := (s6.blk hj).1; simp; omega)
      have hyl : y.terms.length ≤ r.length := by
        have hff := hfine r wr
        revert post hff
        cases part r with
        | error e => rintro ⟨_, _, hl⟩ _; exact hl
        | ok z =>
          obtain ⟨y', r''⟩ := z
          rintro ⟨_, rfl, _, _⟩ ⟨_, _, _, hl⟩
          omega
      refine ⟨⟨bx7.cells _ rfl, trivial⟩, ?_⟩
      refine call_of (add_hc sx7.vwT s7.vwT sx7.vwT' s7.vwT' (by omega) gx.size gy.size) ?_
      rintro _ h10 ⟨e10, q', m', cq', rfl, s10⟩
      rw [linAdd_eq gx.nf gy.nf] at s10 ⊢
      refine ⟨((q', m', cq'), ((linA x y).num : Int), ()), rfl, ?_⟩
      dsimp only [flat, unc, unc1, List.nil_append, List.cons_append]
      refine ⟨⟨(cl7.keep e10 (by simp)).b6.cells _ rfl, trivial⟩, ?_⟩
      have hb7 := bx7.lt
      have hz07 := k07.size
      refine stores_of (bx7.keep e10 (by simp)) rfl (by simp) ?_
      intro h11 b11 k11 z11
      have b11 : Box h11 h2.size 69 [.slice q' m' cq', .int .u32 ((linA x y).num : Int)] := b11
      have k711 : Ch [h2.size] h7 h11 := Ch.trans (e10.mono (by simp)) k11 (fun j hj _ => hj)
      have hal := addM_length x.terms y.terms
      have hall : (linA x y).terms.length ≤ x.terms.length + y.terms.length := hal
      have mk : ∀ m, ((e' = 0 ∧ d' = d ∧ ∃ n, sumG part ts = sumL part n (linA x y) ts' ∧ ts'.length ≤ n ∧ ts' <:+ ts ∧ (linA x y).terms.length + ts'.length ≤ ts.length ∧ m = n + 1) ∨ (e' ≠ 0 ∧ sumG part ts = .error e' ∧ (linA x y).terms.length ≤ ts.length ∧ m = 0)) →
          LoopS h A h.size h2.size d ts (sumG part ts) (sumL part) m h11 := fun m hc =>
        ⟨Ch.trans k07 k711 (fun j hj hl => by simp at hj; omega), b17.keep k711 (by simp; omega), linA x y, q', m', cq', ts', d', e', b11, (s10.keep' k11 (fun j hj => by have := (s10.blk hj).1; simp; omega)).mono (by omega), gx.A gy, pb7.keep k711 (by simp; omega), hc⟩
      have hff := hfine r wr
      revert post hff
      cases hfr : part r with
      | error e =>
        rintro ⟨he, he0, _⟩ _
        refine again_mk (cs := []) () 0 rfl (by omega) rfl (mk 0 (.inr ⟨by omega, ?_, by omega, rfl⟩))
        rw [hpl, hfr, he]
      | ok z =>
        obtain ⟨y', r''⟩ := z
        rintro ⟨he, rfl, rfl, hd'⟩ ⟨_, hs2, hl2, hn2⟩
        rw [hfr] at hpl
        exact again_mk (cs := []) () (n' + 1) rfl (by omega) rfl (mk _ (.inl ⟨he, hd', n', hpl, by omega, (hs2.trans (List.suffix_cons _ _)).trans hsuf, by omega, rfl⟩))
  · rw [if_neg (by rw [g1]; simp)] at pb6
    have k06 : Ch [A] h h6 := Ch.trans k5 k6 (fun j hj _ => hj)
    have cl6 := hrest h6 k06
    refine loads_box cl6.b3 (some ⟨A, 0, none⟩, ()) rfl ?_
    dsimp only [flat, unc, unc1, List.nil_append, List.cons_append]
    refine call_of (sign79_hc pb6 45) ?_
    rintro _ h6' ⟨rfl, k6', z6', pb6'⟩
    refine ⟨(signB 0 ts' 45, ()), rfl, ?_⟩
    dsimp only [flat, unc, unc1, List.nil_append, List.cons_append]
    have k56 : Ch [A] h5 h6' := Ch.trans k6 k6' (fun j hj _ => hj)
    refine cond_mk (fun g2 => ?_) (fun g2 => ?_)
    · rw [if_pos g2] at pb6'
      have k06' : Ch [A] h h6' := Ch.trans k5 k56 (fun j hj _ => hj)
      have cl6' := hrest h6' k06'
      have b16 := b15.keep k56 (by simp; omega)
      have b6 := b5.keep k56 (by simp; omega)
      have s6 := s5.keep' k56 (fun j hj => by have := (s5.blk hj).1; simp; omega)
      cases ts' with
      | nil => cases g2
      | cons t r =>
        have g1 : isS t 43 = false := g1
        have g2 : isS t 45 = true := g2
        simp only [List.length_cons] at hn hxn
        obtain ⟨n', rfl⟩ : ∃ n', n = n' + 1 := ⟨n - 1, by omega⟩
        have pb6' : PB h6' A r d 0 := pb6'
        have wr : Wf r := (w.suffix hsuf).tail
        have hpl : sumG part ts = match part r with
          | .error e => .error e
          | .ok (y, r'') => sumL part n' (linA x (linT y 4294967295)) r'' := by
          rw [hq]
          show (if isS t 43 = true then _ else if isS t 45 = true then _ else _) = _
          rw [if_neg (by rw [g1]; simp), if_pos g2]
          cases part r <;> rfl
        refine loads_box b6 ((p, l, c), (x.num : Int), ()) rfl ?_
        dsimp only [flat, unc, unc1, List.nil_append, List.cons_append]
        refine loads_box cl6'.b6 (.func (.func 81) #[] #[ptr a5, ptr a3], ()) rfl ?_
        dsimp only [flat, unc, unc1, List.nil_append, List.cons_append]
        refine callv_of (cap := [ptr a5, ptr a3]) hb81 rfl (hpart h6' r cl6' pb6' wr (by omega)) ?_
        rintro _ h7 ⟨k7, y, p', l', c', ts', d', e', rfl, s7, gy, pb7, post⟩
        refine ⟨((p', l', c'), (y.num : Int), ()), rfl, ?_⟩
        dsimp only [flat, unc, unc1, List.nil_append, List.cons_append]
        have hz7 := k7.size
        have k07 : Ch [A] h h7 := Ch.trans k06' k7 (fun j hj _ => hj)
        have cl7 := hrest h7 k07
        have b17 := b16.keep k7 (by simp; omega)
        have bx7 := b6.keep k7 (by simp; omega)
        have sx7 := s6.keep' k7 (fun j hj => by have := (s6.blk hj).1; simp; omega)
        have hyl : y.terms.length ≤ r.length := by
          have hff := hfine r wr
          revert post hff
          cases part r with
          | error e => rintro ⟨_, _, hl⟩ _; exact hl
          | ok z =>
            obtain ⟨y', r''⟩ := z
            rintro ⟨_, rfl, _, _⟩ ⟨_, _, _, hl⟩
            omega
        refine ⟨⟨bx7.cells _ rfl, trivial⟩, ?_⟩
        refine call_of (times_hc s7.vwT (by omega) gy.size 4294967295) ?_
        rintro _ h8 ⟨e8, q8, m8, c8, rfl, s8⟩
        rw [linTimes_eq gy.nf] at s8 ⊢
        refine ⟨((q8, m8, c8), ((linT y 4294967295).num : Int), ()), rfl, ?_⟩
        dsimp only [flat, unc, unc1, List.nil_append, List.cons_append]
        have gt := gy.T 4294967295
        have htl : (linT y 4294967295).terms.length ≤ y.terms.length := timesN_length _ _
        generalize hy2 : linT y 4294967295 = y2 at s8 gt htl ⊢
        have hz8 := e8.size
        have bx8 := bx7.keep e8 (by simp)
        have sx8 := sx7.keep' e8 (by simp)
        refine ⟨⟨(cl7.keep e8 (by simp)).b6.cells _ rfl, bx8.cells _ rfl, trivial⟩, ?_⟩
        refine call_of (add_hc sx8.vwT s8.vwT sx8.vwT' s8.vwT' (by omega) gx.size gt.size) ?_
        rintro _ h10 ⟨e10, q', m', cq', rfl, s10⟩
        rw [linAdd_eq gx.nf gt.nf] at s10 ⊢
        refine ⟨((q', m', cq'), ((linA x y2).num : Int), ()), rfl, ?_⟩
        dsimp only [flat, unc, unc1, List.nil_append, List.cons_append]
        refine ⟨⟨((cl7.keep e8 (by simp)).keep e10 (by simp)).b6.cells _ rfl, trivial⟩, ?_⟩
        have hb7 := bx7.lt
        have hz07 := k07.size
        refine stores_of (bx8.keep e10 (by simp)) rfl (by simp) ?_
        intro h11 b11 k11 z11
        have b11 : Box h11 h2.size 69 [.slice q' m' cq', .int .u32 ((linA x y2).num : Int)] := b11
        have k711 : Ch [h2.size] h7 h11 := Ch.trans ((e8.trans e10).mono (by simp)) k11 (fun j hj _ => hj)
        have hall : (linA x y2).terms.length ≤ x.terms.length + y2.terms.length := addM_length x.terms y2.terms
        have mk : ∀ m, ((e' = 0 ∧ d' = d ∧ ∃ n, sumG part ts = sumL part n (linA x y2) ts' ∧ ts'.length ≤ n ∧ ts' <:+ ts ∧ (linA x y2).terms.length + ts'.length ≤ ts.length ∧ m = n + 1) ∨ (e' ≠ 0 ∧ sumG part ts = .error e' ∧ (linA x y2).terms.length ≤ ts.length ∧ m = 0)) →
            LoopS h A h.size h2.size d ts (sumG part ts) (sumL part) m h11 := fun m hc =>
          ⟨Ch.trans k07 k711 (fun j hj hl => by simp at hj; omega), b17.keep k711 (by simp; omega), linA x y2, q', m', cq', ts', d', e', b11, (s10.keep' k11 (fun j hj => by have := (s10.blk hj).1; simp; omega)).mono (by omega), gx.A gt, pb7.keep k711 (by simp; omega), hc⟩
        have hff := hfine r wr
        revert post hff
        cases hfr : part r with
        | error e =>
          rintro ⟨he, he0, _⟩ _
          refine again_mk (cs := []) () 0 rfl (by omega) rfl (mk 0 (.inr ⟨by omega, ?_, by omega, rfl⟩))
          rw [hpl, hfr, he]
        | ok z =>
          obtain ⟨y', r''⟩ := z
          rintro ⟨he, rfl, rfl, hd'⟩ ⟨_, hs2, hl2, hn2⟩
          rw [hfr] at hpl
          simp only at hpl
          rw [hy2] at hpl
          exact again_mk (cs := []) () (n' + 1) rfl (by omega) rfl (mk _ (.inl ⟨he, hd', n', hpl, by omega, (hs2.trans (List.suffix_cons _ _)).trans hsuf, by omega, rfl⟩))
    · rw [if_neg (by rw [g2]; simp)] at pb6'
      refine out h6' k56 pb6' ?_ _
      rw [hq, sumL_stop g1 g2]
      exact ⟨rfl, rfl, rfl, rfl⟩
theorem sumD_hc (A a3 a4 a5 a6 : Nat) : ∀ k d : Nat, d + k = 32 → FacC Tryd.prog 82 [ptr a6, ptr a3] A a3 a4 a5 a6 d (sumD k) := by
  intro k
  induction k with
  | zero =>
    intro d hd
    refine sum_hc (part_hc (fac := facG none) ?_ (facG_fine (by intro f hf; cases hf))) (partG_fine (facG_fine (by intro f hf; cases hf)))
    intro h ts cl pb w hts
    exact fac_hc (o := none) (by omega) (by show d = 32; omega) (by intro f hf; cases hf) cl pb w hts
  | succ k ih =>
    intro d hd
    have hfine : ∀ f, some (sumD k) = some f → ∀ ts, Wf ts → Fine ts (f ts) := by
      intro f hf
      cases hf
      exact sumD_fine k
    refine sum_hc (part_hc (fac := facG (some (sumD k))) ?_ (facG_fine hfine)) (partG_fine (facG_fine hfine))
    intro h ts cl pb w hts
    exact fac_hc (o := some (sumD k)) (by omega) ⟨by omega, fun h ts c p w l => ih (d + 1) (by omega) h ts c p w l⟩ hfine cl pb w hts
/-- expr.Parse: what it hands on is new memory. -/
def ParseP (h : Hp) (res : Except Nat Lin) (v : Value) (h' : Hp) : Prop :=
  Ext h h' ∧ match res with
  | .error e => v = .tuple #[.agg #[.slice none 0 0, .int .u32 0], .int .i64 (e : Int)]
  | .ok x => ∃ p l c, v = .tuple #[linV p l c x, .int .i64 0] ∧ SL h' h.size 80 2 p l c (x.terms.map encT) ∧ Good x
theorem parse46_hc {h : Hp} {p : Option Addr} {l c : Nat} {ts : List Tok} (v : Vw h p l c ts) (hp : ∀ i, i ∈ blkOf p → i < h.size) (w : Wf ts) (hts : ts.length ≤ 2 ^ 40) :
    HC Tryd.prog 46 #[.slice p l c] h (ParseP h (parseX ts)) := by
  refine hcr_of (args := [.slice p l c]) mixed Tryd.func46 (by kernel_rfl) (t_expr_Parse_eq p l c) ?_
  unfold t_expr_Parse
  refine newB ?_
  intro h1 b1 e1 z1
  refine newB ?_
  intro h2 b2 e2 z2
  refine newB ?_
  intro h3 b3 e3 z3
  refine stores_of b3 rfl (by simp) ?_
  intro h4 b4 k4 z4
  have b4 : Box h4 h2.size 116 [ptr h1.size] := b4
  refine newB ?_
  intro h5 b5 e5 z5
  refine newB ?_
  intro h6 b6 e6 z6
  refine stores_of b6 rfl (by simp) ?_
  intro h7 b7 k7 z7
  have b7 : Box h7 h5.size 119 [.func (.func 78) #[] #[ptr h2.size, ptr h4.size]] := b7
  refine newB ?_
  intro h8 b8 e8 z8
  refine stores_of b8 rfl (by simp) ?_
  intro h9 b9 k9 z9
  have b9 : Box h9 h7.size 119 [.func (.func 81) #[] #[ptr h5.size, ptr h2.size]] := b9
  have e23 : Ext h2 h4 := Ch.trans e3 k4 (fun j hj hl => by simp at hj; omega)
  have e57 : Ext h4 h7 := Ch.trans (e5.trans e6) k7 (fun j hj hl => by simp at hj; omega)
  have e79 : Ext h7 h9 := Ch.trans e8 k9 (fun j hj hl => by simp at hj; omega)
  have b5' : Box h7 h4.size 119 [.nilFunc] := (b5.keep e6 (by simp)).keep k7 (by simp; omega)
  refine stores_of (b5'.keep e79 (by simp)) rfl (by simp) ?_
  intro h10 b10 k10 z10
  have b10 : Box h10 h4.size 119 [.func (.func 82) #[] #[ptr h7.size, ptr h2.size]] := b10
  have e49 : Ext h4 h9 := e57.trans e79
  have k210 : Ch [] h2 h10 := Ch.trans (e23.trans e49) k10 (fun j hj hl => by simp at hj; omega)
  have e010 : Ext h h10 := (e1.trans e2).trans k210
  have cl : Cl h10 h1.size h2.size h4.size h5.size h7.size := ⟨(b4.keep e49 (by simp)).keep k10 (by simp; omega), b10, ((b7.keep e79 (by simp))).keep k10 (by simp; omega), b9.keep k10 (by simp; omega), by omega, by omega, by omega, by omega⟩
  have pb : PB h10 h1.size ts ((0 : Nat) : Int) 0 := ⟨p, l, c, b2.keep k210 (by simp), v.keep e010 (by simp), fun i hi => by have := hp i hi; omega⟩
  have br := (b1.keep e2 (by simp)).keep k210 (by simp)
  refine loads_box cl.b4 (.func (.func 82) #[] #[ptr h7.size, ptr h2.size], ()) rfl ?_
  dsimp only [flat, unc, unc1, List.nil_append, List.cons_append]
  refine callv_of (cap := [ptr h7.size, ptr h2.size]) hb29 rfl (sumD_hc h1.size h2.size h4.size h5.size h7.size 32 0 rfl h10 ts cl pb w hts) ?_
  rintro _ h11 ⟨k11, x, p', l', c', ts', d', e', rfl, s11, gx, pb11, post⟩
  refine ⟨((p', l', c'), (x.num : Int), ()), rfl, ?_⟩
  dsimp only [flat, unc, unc1, List.nil_append, List.cons_append]
  have hz11 := k11.size
  have hz10 := e010.size
  refine newB ?_
  intro h12 b12 e12 z12
  refine stores_of b12 rfl (by simp) ?_
  intro h13 b13 k13 z13
  have b13 : Box h13 h11.size 69 [.slice p' l' c', .int .u32 (x.num : Int)] := b13
  have e1113 : Ext h11 h13 := Ch.trans e12 k13 (fun j hj hl => by simp at hj; omega)
  have k1013 : Ch [h1.size] h10 h13 := Ch.trans k11 e1113 (by simp)
  have cl13 := cl.keep k1013 (by simp)
  have pb13 := pb11.keep e1113 (by simp)
  have br13 := br.keep k1013 (by simp; omega)
  have e013 : Ext h h13 := Ch.trans e010 k1013 (fun j hj hl => by simp at hj; omega)
  have s13 := s11.keep' e1113 (by simp)
  refine loads_box cl13.b3 (some ⟨h1.size, 0, none⟩, ()) rfl ?_
  dsimp only [flat, unc, unc1, List.nil_append, List.cons_append]
  have tail : ∀ (hx : Hp) (e0 : Nat) (ts'' : List Tok), Ch [h1.size] h13 hx → PB hx h1.size ts'' d' e0 → (e0 ≠ 0 → parseX ts = .error e0) → (e0 = 0 → parseX ts = .ok x) → ∀ L, (T.loads ⟨h2.size, 0, none⟩ [.pointer 118] fun (p18 : Option Addr) =>
      T.osome p18 <| fun (a19 : Addr) =>
      T.loads (a19.add 2) [.int .i64] <| fun (n20 : Int) =>
      cond (n20 != (0 : Int))
       (T.loads ⟨h2.size, 0, none⟩ [.pointer 118] <| fun (p21 : Option Addr) =>
       T.osome p21 <| fun (a22 : Addr) =>
       T.loads (a22.add 2) [.int .i64] <| fun (n23 : Int) =>
       T.stores ⟨h.size, 0, none⟩ [.slice none 0 0, .int .u32 (0 : Int)] <|
       T.stable [((a22.add 2), [.int .i64 n23]), (⟨h2.size, 0, none⟩, [.pointer p21])] <|
       T.loads ⟨h.size, 0, none⟩ [.slice 80, .int .u32] <| fun (p24 : Option Addr) (l25 : Nat) (l26 : Nat) (n27 : Int) =>
       T.ret (.tuple #[.agg #[.slice p24 l25 l26, .int .u32 n27], .int .i64 n23]))
       (T.loads ⟨h11.size, 0, none⟩ [.slice 80, .int .u32] <| fun (p21 : Option Addr) (l22 : Nat) (l23 : Nat) (n24 : Int) =>
       T.stores ⟨h.size, 0, none⟩ [.slice p21 l22 l23, .int .u32 n24] <|
       T.loads ⟨h.size, 0, none⟩ [.slice 80, .int .u32] <| fun (p25 : Option Addr) (l26 : Nat) (l27 : Nat) (n28 : Int) =>
       T.ret (.tuple #[.agg #[.slice p25 l26 l27, .int .u32 n28], .int .i64 (0 : Int)]))) L (ParseP h (parseX ts)) hx := by
    intro hx e0 ts'' kx pbx hp1 hp2 L
    have clx := cl13.keep kx (by simp)
    have brx := br13.keep kx (by simp; omega)
    have hzx := kx.size
    have e0x : Ext h hx := Ch.trans e013 kx (fun j hj hl => by simp at hj; omega)
    obtain ⟨q, m, cq, bQ, vq, hq⟩ := pbx
    refine loads_box clx.b3 (some ⟨h1.size, 0, none⟩, ()) rfl ?_
    dsimp only [flat, unc, unc1, List.nil_append, List.cons_append]
    refine osome_mk rfl ?_
    rw [add_box]
    refine loads_box bQ ((e0 : Int), ()) rfl ?_
    dsimp only [flat, unc, unc1, List.nil_append, List.cons_append]
    refine cond_mk (fun g => ?_) (fun g => ?_)
    · have g : ¬ e0 = 0 := by simpa using g
      refine loads_box clx.b3 (some ⟨h1.size, 0, none⟩, ()) rfl ?_
      dsimp only [flat, unc, unc1, List.nil_append, List.cons_append]
      refine osome_mk rfl ?_
      rw [add_box]
      refine loads_box bQ ((e0 : Int), ()) rfl ?_
      dsimp only [flat, unc, unc1, List.nil_append, List.cons_append]
      refine stores_of brx rfl (by simp) ?_
      intro hy by' ky zy
      have by' : Box hy h.size 69 [.slice none 0 0, .int .u32 0] := by'
      refine ⟨⟨(bQ.keep ky (by simp; omega)).cells _ rfl, (clx.b3.keep ky (by simp; omega)).cells _ rfl, trivial⟩, ?_⟩
      refine loads_box by' ((none, 0, 0), (0 : Int), ()) rfl ?_
      refine ⟨Ch.trans e0x ky (fun j hj hl => by simp at hj; omega), ?_⟩
      rw [hp1 g]
    · have g : e0 = 0 := by simpa using g
      refine loads_box (b13.keep kx (by simp; omega)) ((p', l', c'), (x.num : Int), ()) rfl ?_
      dsimp only [flat, unc, unc1, List.nil_append, List.cons_append]
      refine stores_of brx rfl (by simp) ?_
      intro hy by' ky zy
      have by' : Box hy h.size 69 [.slice p' l' c', .int .u32 (x.num : Int)] := by'
      refine loads_box by' ((p', l', c'), (x.num : Int), ()) rfl ?_
      refine ⟨Ch.trans e0x ky (fun j hj hl => by simp at hj; omega), ?_⟩
      rw [hp2 g]
      have sx := s13.keep' kx (fun j hj => by have := (s13.blk hj).1; simp; omega)
      exact ⟨p', l', c', rfl, (sx.keep' ky (fun j hj => by have := (sx.blk hj).1; simp; omega)).mono (by omega), gx⟩
  obtain ⟨q, m, cq, bQ, vq, hq⟩ := pb13
  have pb13 : PB h13 h1.size ts' d' e' := ⟨q, m, cq, bQ, vq, hq⟩
  refine osome_mk rfl ?_
  refine loads_box bQ ((q, m, cq), ()) rfl ?_
  dsimp only [flat, unc, unc1, List.nil_append, List.cons_append]
  have hm := vq.len
  have hpx : parseX ts = match sumD 32 ts with
    | .error e => .error e
    | .ok (x, r) => if r = [] then .ok x else .error 20 := rfl
  refine cond_mk (fun g => ?_) (fun g => ?_)
  · have g := of_decide_eq_true g
    refine loads_box cl13.b3 (some ⟨h1.size, 0, none⟩, ()) rfl ?_
    dsimp only [flat, unc, unc1, List.nil_append, List.cons_append]
    refine call_of (refuse80_hc pb13 20) ?_
    rintro _ h14 ⟨rfl, k14, z14, pb14⟩
    refine ⟨(), rfl, ?_⟩
    dsimp only [flat, unc, unc1, List.nil_append, List.cons_append]
    refine tail h14 _ ts' k14 pb14 ?_ ?_ _
    · intro hne
      revert post hpx
      cases sumD 32 ts with
      | error e =>
        rintro ⟨he, he0, _⟩ hpx
        rw [hpx, he, if_neg he0]
      | ok z =>
        obtain ⟨y, r⟩ := z
        rintro ⟨he, _, hr, _⟩ hpx
        rw [hpx, he]
        simp only
        rw [if_neg (by rw [← hr]; intro hh; rw [hh] at hm; simp at hm; omega)]
        rfl
    · intro h0
      exfalso
      split at h0 <;> omega
  · have g := of_decide_eq_false g
    have hts' : ts' = [] := List.length_eq_zero_iff.1 (by omega)
    refine tail h13 e' ts' (Ch.refl _ _) pb13 ?_ ?_ _
    · intro hne
      revert post hpx
      cases sumD 32 ts with
      | error e =>
        rintro ⟨he, he0, _⟩ hpx
        rw [hpx, he]
      | ok z =>
        obtain ⟨y, r⟩ := z
        rintro ⟨he, _, hr, _⟩ hpx
        exact absurd he hne
    · intro h0
      revert post hpx
      cases sumD 32 ts with
      | error e =>
        rintro ⟨he, he0, _⟩ hpx
        exact absurd (he.symm.trans h0) he0
      | ok z =>
        obtain ⟨y, r⟩ := z
        rintro ⟨he, hx, hr, _⟩ hpx
        rw [hpx, ← hr, hts', hx]
        rfl
end Go.Sx
