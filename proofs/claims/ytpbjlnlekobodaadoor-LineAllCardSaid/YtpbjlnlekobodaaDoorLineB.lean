/- line.Parse answers as the plain parser. Condition: at most 2^40 bytes; the error variables hold interface values. -/
import Derived.Test.YtpbjlnlekobodaaDoorLineA
set_option linter.unusedVariables false
set_option linter.unusedSimpArgs false
set_option linter.deprecated false
set_option maxRecDepth 100000
namespace Go.Sx
open Go.Proofs
def parsePost (te es : TypeId) (s : ByteArray) (h : Hp) (v : Value) (h' : Hp) : Prop :=
  Ext h h' ∧ ∃ p c al, v = .tuple #[.agg #[.string (parseS s).1.label, .string (parseS s).1.op, .slice p al.length c], .int .i64 (parseS s).2.1, .int .i64 (parseS s).2.2] ∧ Args h' h.size te es p c al ∧ al.map In.ts = (parseS s).1.args
theorem labB_drop {ts : List Tok} (h : labB ts = true) : ∃ t u r, ts = t :: u :: r ∧ t.kind = 1 ∧ isS u 58 = true := by
  match ts, h with
  | t :: u :: r, h =>
    simp only [labB, Bool.and_eq_true, decide_eq_true_eq] at h
    exact ⟨t, u, r, rfl, h.1, h.2⟩
theorem labB_false {ts : List Tok} (hh : ∀ t u r, ts = t :: u :: r → t.kind = 1 → isS u 58 = true → False) : labB ts = false := by
  match ts, hh with
  | [], _ => rfl
  | [_], _ => rfl
  | t :: u :: r, hh =>
    cases hl : labB (t :: u :: r) with
    | false => rfl
    | true =>
      simp only [labB, Bool.and_eq_true, decide_eq_true_eq] at hl
      exact (hh t u r rfl hl.1 hl.2).elim
theorem parse_hc (s : ByteArray) (h : Hp) (hs : s.size ≤ 2 ^ 40) (hl : Laid h) : HC Tryd.prog 34 #[.string s] h (parsePost 23 35 s h) := by
  refine hcr_of (args := [.string s]) mixed Tryd.func34 (by kernel_rfl) (t_line_Parse_eq s) ?_
  unfold t_line_Parse
  refine newB ?_
  intro h1 b1 e1 z1
  refine call_of (tokens_hc s h1 hs (hl.ext e1)) ?_
  rintro _ h2 ⟨p2, l3, l4, rfl, sl, e2⟩
  refine ⟨((p2, l3, l4), ((lexS s).2.1 : Int), ((lexS s).2.2 : Int), ()), rfl, ?_⟩
  dsimp only [unc, unc1, flat, List.nil_append, List.cons_append]
  have b2 := b1.keep e2 (by simp)
  have e12 := e1.trans e2
  have hlen := lexS_len s
  have hz2 := e2.size
  have hE : ∀ {hh h' : Hp}, Ext h hh → Ch [h.size] hh h' → Ext h h' := fun e k => Ch.trans e k (fun i hi hl => by simp at hi; omega)
  refine cond_mk (fun g1 => ?_) (fun g1 => ?_)
  · have g1 : ((lexS s).2.2 : Int) ≠ 0 := by simpa using g1
    have hp : parseS s = (lnNil, (lexS s).2.1, (lexS s).2.2) := by unfold parseS; rw [if_pos (by omega)]
    refine stores_of b2 rfl (by simp) ?_
    intro h3 b3 k3 z3
    have b3 : Box h3 h.size 48 [.string ⟨#[]⟩, .string ⟨#[]⟩, .slice none 0 0] := b3
    refine loads_box b3 ((⟨#[]⟩ : ByteArray), (⟨#[]⟩ : ByteArray), (none, 0, 0), ()) rfl ?_
    exact ⟨hE e12 k3, none, 0, [], by rw [hp]; rfl, Args.nil _ _ _ _, by rw [hp]; rfl⟩
  have g1 : ((lexS s).2.2 : Int) = 0 := by simpa using g1
  have hp : parseS s = parseL s.size (lexS s).1 := by unfold parseS; rw [if_neg (by omega)]
  have vw := sl.vw
  have hblk : ∀ i, i ∈ blkOf p2 → h1.size + 1 ≤ i ∧ i < h2.size := fun i hi => sl.blk hi
  clear sl
  generalize (lexS s).1 = ts at hp vw hlen
  unfold parsePost
  rw [hp]
  refine newB ?_
  intro h3 b7 e3 z3
  have hz1 := z1
  have vw3 := vw.keep e3 (by simp)
  have hl3 := vw.len
  have hcap := vw.cap
  refine join_of (cs := [(false, [.slice 0])]) (fun y h' => ∃ lb us, parseL s.size ts = parseT s.size lb us ∧ us.length ≤ s.size ∧ Vw h' y.1.1 y.1.2.1 y.1.2.2 us ∧ (∀ i, i ∈ blkOf y.1.1 → h1.size + 1 ≤ i ∧ i < h2.size) ∧ Box h' h2.size 48 [.string lb, .string ⟨#[]⟩, .slice none 0 0] ∧ Ch [h2.size] h3 h') ?_ ?_
  · have plain : ∀ {L : Lp} {K : Value → Hp → Prop} {h' : Hp}, Ext h3 h' → labB ts = false → (T.again 0 [.slice p2 l3 l4]) ((fun vs h' => ∃ y : HVs (flat [(false, [.slice 0])]), vs = parts [(false, [.slice 0])] (hvs _ y) ∧ ∃ lb us, parseL s.size ts = parseT s.size lb us ∧ us.length ≤ s.size ∧ Vw h' y.1.1 y.1.2.1 y.1.2.2 us ∧ (∀ i, i ∈ blkOf y.1.1 → h1.size + 1 ≤ i ∧ i < h2.size) ∧ Box h' h2.size 48 [.string lb, .string ⟨#[]⟩, .slice none 0 0] ∧ Ch [h2.size] h3 h') :: L) K h' := by
      intro L K h' e hlab
      refine meet_mk (cs := [(false, [.slice 0])]) ((p2, l3, l4), ()) rfl rfl ⟨⟨#[]⟩, ts, ?_, hlen, vw3.keep e (by simp), hblk, b7.keep e (by simp), e.mono (by simp)⟩
      unfold parseL
      rw [if_neg (by rw [hlab]; simp)]
    refine cond_mk (fun g2 => ?_) (fun g2 => ?_)
    · have g2 := of_decide_eq_true g2
      match ts, hl3 with
      | [], hl3 => simp at hl3; omega
      | [_], hl3 => simp at hl3; omega
      | t :: u :: r, hl3 =>
        obtain ⟨a, rfl, c0⟩ := vw3.cells 0 (by simp)
        obtain ⟨a', ha', c1⟩ := vw3.cells 1 (by simp)
        cases ha'
        have c0 : cellsAt h3 (a.add (0 * 4)) 0 (enc t) := c0
        have c1 : cellsAt h3 (a.add (1 * 4)) 0 (enc u) := c1
        have ab : a.block ∈ blkOf (some a) := by simp [blkOf]
        refine need_of ⟨by omega, by omega⟩ (osome_mk rfl (loads_of ((t.kind : Int), ()) ⟨c0.1, trivial⟩ ?_))
        dsimp only [unc, unc1, flat, List.nil_append, List.cons_append]
        refine cond_mk (fun g3 => ?_) (fun g3 => ?_)
        · have g3 : (t.kind : Int) = 1 := eq_of_beq g3
          refine need_of ⟨by omega, by omega⟩ (osome_mk rfl (loads_of ((u.kind : Int), u.text, (u.num : Int), (u.at_ : Int), ()) c1 ?_))
          refine call_boolx (is_hc u 58 h3) ?_
          intro h4 e4
          refine cond_mk (fun g4 => ?_) (fun g4 => ?_)
          · have c0' := cellsAt_keep e4 (by simp) _ _ c0
            refine need_of ⟨by omega, by omega⟩ (osome_mk rfl (loads_of (t.text, ()) ⟨c0'.2.1, trivial⟩ ?_))
            refine stores_of (b7.keep e4 (by simp)) rfl (by simp) ?_
            intro h5 b5 k5 z5
            refine need_of ⟨by omega, by omega, by omega⟩ ?_
            have e35 : Ch [h2.size] h3 h5 := Ch.trans (e4.mono (by simp)) k5 (fun i hi _ => hi)
            have vd := ((vw3.keep e4 (by simp)).keep k5 (fun i hi => by have := (hblk i hi).2; simp; omega)).drop (k := 2) (by omega)
            refine meet_mk (cs := [(false, [.slice 0])]) ((if l4 = 2 then some a else (some a).map fun a => a.add (2 * 4), l3 - 2, l4 - 2), ()) rfl ?_ ⟨t.text, r, ?_, by simp at hlen; omega, vd, ?_, b5, e35⟩
            · show [Value.slice _ (Int.toNat (l3 : Int) - 2) (l4 - 2)] = _
              rw [show Int.toNat (l3 : Int) = l3 by omega]
              rfl
            · unfold parseL
              rw [if_pos (by show (decide (t.kind = 1) && isS u 58) = true; rw [g4, decide_eq_true (by omega)]; rfl)]
              rfl
            · intro i hi
              rw [show blkOf (if l4 = 2 then some a else (some a).map fun a => a.add (2 * 4)) = blkOf (some a) from blkOf_if _ _ _ _] at hi
              exact hblk i hi
          · exact plain e4 (labB_false (by rintro _ _ _ hh h1 h2; injection hh with q1 q2; injection q2 with q2 _; subst q1 q2; rw [h2] at g4; cases g4))
        · have g3 : (t.kind : Int) ≠ 1 := ne_of_beq_false g3
          exact plain (Ch.refl _ _) (labB_false (by rintro _ _ _ hh h1 h2; injection hh with q1 q2; subst q1; omega))
    · have g2 := of_decide_eq_false g2
      exact plain (Ch.refl _ _) (labB_false (by rintro t u r rfl h1 h2; simp at hl3; omega))
  · rintro ⟨⟨p8, l9, l10⟩, ⟨⟩⟩ h4 ⟨lb, us, hpl, hus, v4, hb4, b4, k4⟩
    simp only at v4 hb4
    dsimp only [unc, unc1, flat, List.nil_append, List.cons_append]
    rw [hpl]
    have hl9 := v4.len
    have hc9 := v4.cap
    have hne : h.size ≠ h2.size := by omega
    have a4 : Box h4 h.size 48 [.string ⟨#[]⟩, .string ⟨#[]⟩, .slice none 0 0] := (b2.keep e3 (by simp)).keep k4 (by simp; omega)
    have e04 : Ext h h4 := Ch.trans (e12.trans e3) k4 (fun i hi hl => by simp at hi; omega)
    have hz4 := k4.size
    have hz3 := e3.size
    -- the line goes out
    have out : ∀ {hh : Hp} {L : Lp} {op : ByteArray} {al : List In} {p : Option Addr} {c : Nat}, (∃ v w u, Box hh h.size 48 [v, w, u]) → Box hh h2.size 48 [.string lb, .string op, .slice p al.length c] → Ext h hh → Args hh h4.size 23 35 p c al → parseT s.size lb us = (⟨lb, op, al.map In.ts⟩, 0, 0) →
        (T.loads ⟨h2.size, 0, none⟩ [.string, .string, .slice 23] <| fun (s11 : ByteArray) (s12 : ByteArray) (p13 : Option Addr) (l14 : Nat) (l15 : Nat) =>
          T.stores ⟨h.size, 0, none⟩ [.string s11, .string s12, .slice p13 l14 l15] <|
          T.loads ⟨h.size, 0, none⟩ [.string, .string, .slice 23] <| fun (s16 : ByteArray) (s17 : ByteArray) (p18 : Option Addr) (l19 : Nat) (l20 : Nat) =>
          T.ret (.tuple #[.agg #[.string s16, .string s17, .slice p18 l19 l20], .int .i64 (0 : Int), .int .i64 (0 : Int)])) L
          (fun v h' => Ext h h' ∧ ∃ p c al, v = .tuple #[.agg #[.string (parseT s.size lb us).1.label, .string (parseT s.size lb us).1.op, .slice p al.length c], .int .i64 (parseT s.size lb us).2.1, .int .i64 (parseT s.size lb us).2.2] ∧ Args h' h.size 23 35 p c al ∧ al.map In.ts = (parseT s.size lb us).1.args) hh := by
      rintro hh L op al p c ⟨v, w, u, bb⟩ b7' e A hpt
      refine loads_box b7' (lb, op, (p, al.length, c), ()) rfl ?_
      refine stores_of bb rfl (by simp) ?_
      intro h' b' k' z'
      have b' : Box h' h.size 48 [.string lb, .string op, .slice p al.length c] := b'
      refine loads_box b' (lb, op, (p, al.length, c), ()) rfl ?_
      rw [hpt]
      exact ⟨hE e k', p, c, al, rfl, (A.keep k' (fun i hi => by have := (A.out.blk hi).1; simp; omega) (fun x hx i hi => by have := ((A.inn x hx).blk hi).1; simp; omega)).mono (by omega), rfl⟩
    refine cond_mk (fun g2 => ?_) (fun g2 => ?_)
    · have g2 : (l9 : Int) = 0 := eq_of_beq g2
      have : us = [] := List.eq_nil_of_length_eq_zero (by omega)
      subst this
      exact out (al := []) ⟨_, _, _, a4⟩ b4 e04 (Args.nil _ _ _ _) rfl
    have g2 : (l9 : Int) ≠ 0 := ne_of_beq_false g2
    cases us with
    | nil => simp at hl9; omega
    | cons t us =>
      obtain ⟨a, rfl, c0⟩ := v4.cells 0 (by simp)
      have c0 : cellsAt h4 (a.add (0 * 4)) 0 (enc t) := c0
      have ab := hb4 a.block (by simp [blkOf])
      refine need_of ⟨by omega, by omega⟩ (osome_mk rfl (loads_of ((t.kind : Int), ()) ⟨c0.1, trivial⟩ ?_))
      dsimp only [unc, unc1, flat, List.nil_append, List.cons_append]
      refine cond_mk (fun g3 => ?_) (fun g3 => ?_)
      · have g3 : (t.kind : Int) ≠ 1 := by simpa using g3
        have hpt : parseT s.size lb (t :: us) = (lnNil, t.at_, 20) := by simp only [parseT]; rw [if_pos (by omega)]
        refine need_of ⟨by omega, by omega⟩ (osome_mk rfl (loads_of ((t.at_ : Int), ()) ⟨c0.2.2.2.1, trivial⟩ ?_))
        dsimp only [unc, unc1, flat, List.nil_append, List.cons_append]
        refine stores_of a4 rfl (by simp) ?_
        intro h5 b5 k5 z5
        have b5 : Box h5 h.size 48 [.string ⟨#[]⟩, .string ⟨#[]⟩, .slice none 0 0] := b5
        have c5 := cellsAt_keep k5 (by rw [add_block]; simp; omega) _ _ c0
        refine ⟨⟨⟨c5.2.2.2.1, trivial⟩, trivial⟩, ?_⟩
        refine loads_box b5 ((⟨#[]⟩ : ByteArray), (⟨#[]⟩ : ByteArray), (none, 0, 0), ()) rfl ?_
        rw [hpt]
        exact ⟨hE e04 k5, none, 0, [], rfl, Args.nil _ _ _ _, rfl⟩
      have g3 : (t.kind : Int) = 1 := by simpa using g3
      have hpt : parseT s.size lb (t :: us) = match argsA s.size us with
          | .error a => (lnNil, a, 20)
          | .ok l => (⟨lb, t.text, l⟩, 0, 0) := by simp only [parseT]; rw [if_neg (by omega)]; cases argsA s.size us <;> rfl
      refine need_of ⟨by omega, by omega⟩ (osome_mk rfl (loads_of (t.text, ()) ⟨c0.2.1, trivial⟩ ?_))
      dsimp only [unc, unc1, flat, List.nil_append, List.cons_append]
      rw [add_box]
      refine stores_of b4 rfl (by simp) ?_
      intro h5 b5 k5 z5
      have b5 : Box h5 h2.size 48 [.string lb, .string t.text, .slice none 0 0] := b5
      have a5 := a4.keep k5 (by simp; omega)
      have e05 : Ext h h5 := Ch.trans e04 k5 (fun i hi hl => by simp at hi; omega)
      refine need_of ⟨by omega, by omega, by omega⟩ ?_
      have vd := (v4.keep k5 (fun i hi => by have := (hb4 i hi).2; simp; omega)).drop (k := 1) (by omega)
      refine call_of (args := [.string s, .slice _ _ _]) (arguments_hc s (us := us) (by simp at hus; omega) ?vv) ?_
      case vv => rw [show Int.toNat (l9 : Int) = l9 by omega]; exact vd
      rintro v h6 ⟨e6, hv⟩
      have a6 := a5.keep e6 (by simp)
      have b6 := b5.keep e6 (by simp)
      have e06 := e05.trans e6
      cases hA : argsA s.size us with
      | error aa =>
        rw [hA] at hv hpt
        simp only at hv hpt
        subst hv
        refine ⟨((none, 0, 0), (aa : Int), (20 : Int), ()), rfl, ?_⟩
        dsimp only [unc, unc1, flat, List.nil_append, List.cons_append]
        refine cond_t rfl ?_
        refine stores_of a6 rfl (by simp) ?_
        intro h7 b7 k7 z7
        have b7 : Box h7 h.size 48 [.string ⟨#[]⟩, .string ⟨#[]⟩, .slice none 0 0] := b7
        refine loads_box b7 ((⟨#[]⟩ : ByteArray), (⟨#[]⟩ : ByteArray), (none, 0, 0), ()) rfl ?_
        rw [hpt]
        exact ⟨hE e06 k7, none, 0, [], rfl, Args.nil _ _ _ _, rfl⟩
      | ok ll =>
        rw [hA] at hv hpt
        simp only at hv hpt
        obtain ⟨p, c, al, rfl, A, hal⟩ := hv
        refine ⟨((p, al.length, c), (0 : Int), (0 : Int), ()), rfl, ?_⟩
        dsimp only [unc, unc1, flat, List.nil_append, List.cons_append]
        refine cond_f rfl ?_
        rw [add_box]
        refine stores_of b6 rfl (by simp) ?_
        intro h7 b7 k7 z7
        have b7 : Box h7 h2.size 48 [.string lb, .string t.text, .slice p al.length c] := b7
        have hz5 := k5.size
        refine out (op := t.text) (al := al) ⟨_, _, _, a6.keep k7 (by simp; omega)⟩ b7 (Ch.trans e06 k7 (fun i hi hl => by simp at hi; omega)) ((A.keep k7 (fun i hi => by have := (A.out.blk hi).1; simp; omega) (fun x hx i hi => by have := ((A.inn x hx).blk hi).1; simp; omega)).mono (by omega)) (by rw [hpt, hal])
end Go.Sx
