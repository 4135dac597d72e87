/- lex.Tokens answers as the plain lexer. Condition: at most 2^40 bytes; the error variables hold interface values. -/
import Derived.Test.YtpbjlnlekobodaaDoorLexGP
set_option linter.unusedVariables false
set_option linter.unusedSimpArgs false
set_option linter.deprecated false
set_option maxRecDepth 100000
namespace Go.Sx
open Go.Proofs
abbrev tokCs : List Comp := [(false, [.slice 0]), (false, [.int .i64]), (false, [.int .i64]), (false, [.slice 0]), (false, [.pointer 0]), (false, [.int .i64]), (false, [.int .i64])]
def tokI (s : ByteArray) (h : Hp) (x : HVs (flat tokCs)) (n : Nat) (h' : Hp) : Prop :=
  ∃ (k : Nat) (acc : List Tok), x.2.2.2.2.2.2.1 = (k : Int) ∧ x.2.2.2.2.1 = some ⟨h.size, 0, none⟩ ∧ k ≤ s.size ∧ n = s.size - k ∧
    (∃ a b c d, Box h' h.size 35 [.int .i64 a, .string b, .int .u32 c, .int .i64 d]) ∧ SL h' (h.size + 1) 35 4 x.2.2.2.1.1 x.2.2.2.1.2.1 x.2.2.2.1.2.2 (acc.map enc) ∧ Ext h h' ∧ h.size + 1 ≤ h'.size ∧
    (∃ f, s.size - k < f ∧ lexS s = lexF s f k acc) ∧ acc.length ≤ k
def tokPost (s : ByteArray) (h : Hp) (v : Value) (h' : Hp) : Prop :=
  ∃ p l c, v = .tuple #[.slice p l c, .int .i64 (lexS s).2.1, .int .i64 (lexS s).2.2] ∧ SL h' (h.size + 1) 35 4 p l c ((lexS s).1.map enc) ∧ Ext h h'
theorem drop_ext {s : ByteArray} {a : Nat} : (s.extract a (Int.toNat (s.size : Int))).data.toList = s.data.toList.drop a := by
  rw [ext_list, show Int.toNat (s.size : Int) = s.size by omega]
  exact List.take_of_length_le (by simp)
theorem getD_drop (l : List UInt8) (a : Nat) : (l.drop a).getD 0 0 = l.getD a 0 := by simp [List.getD]
theorem lexStep_tok {s : ByteArray} {k k' : Nat} {t : Tok} (hk : k ≤ s.size) (h : lexStep s k = .tok t k') : k < k' ∧ k' ≤ s.size := by
  have hsz : s.data.toList.length = s.size := by simp
  have h1 := rowN_le (s.data.toList.drop k) blanksL
  rw [List.length_drop] at h1
  have := lexAt_tok (a := k + rowN (s.data.toList.drop k) blanksL) (by omega) h
  omega
/-- The code behind the place where a token's text is laid. -/
theorem tok_tail {s : ByteArray} {h h2 h5 : Hp} {K : Value → Hp → Prop} {k k' : Nat} {acc : List Tok} {t : Tok} {p2 p7 : Option Addr} {l3 l4 l8 l9 : Nat} {n5 n6 nn kk : Int} (hs : s.size ≤ 2 ^ 40) (hle : k ≤ s.size)
    (hstep : lexStep s k = .tok t k') (hkk : kk = (k' : Int)) (hbox : Box h5 h.size 35 (enc t)) (hch : Ch [h.size] h2 h5) (hsl : SL h2 (h.size + 1) 35 4 p7 l8 l9 (acc.map enc)) (hext : Ext h h2) (hsz2 : h.size + 1 ≤ h2.size)
    (hlex : ∃ f, s.size - k < f ∧ lexS s = lexF s f k acc) (hacc : acc.length ≤ k) :
    (T.loads ⟨h.size, 0, none⟩ [.int .i64, .string, .int .u32, .int .i64] <| fun (n20 : Int) (s21 : ByteArray) (n22 : Int) (n23 : Int) =>
     T.sem Tryd.prog (Instr.buildSlice 23 1 #[(0, .agg #[.int .i64 n20, .string s21, .int .u32 n22, .int .i64 n23])]) false [(false, [.slice 0])] <| fun (p24 : Option Addr) (l25 : Nat) (l26 : Nat) =>
     T.sem Tryd.prog (Builtin.append_ #[23, 23] 23 #[.slice p7 l8 l9, .slice p24 l25 l26]) false [(false, [.slice 0])] <| fun (p27 : Option Addr) (l28 : Nat) (l29 : Nat) =>
     T.again 0 [.slice p2 l3 l4, .int .i64 n5, .int .i64 n6, .slice p27 l28 l29, .pointer (some ⟨h.size, 0, none⟩), .int .i64 nn, .int .i64 kk]) ([] ++ [Jl (cs := tokCs) (tokI s h) (s.size - k)]) K h5 := by
  obtain ⟨hlt, hle'⟩ := lexStep_tok hle hstep
  have hlacc : l8 = acc.length := by rw [hsl.1, List.length_map]
  refine loads_box hbox ((t.kind : Int), t.text, (t.num : Int), (t.at_ : Int), ()) rfl ?_
  have hpn : ∀ a, p7 = some a → h.size + 1 ≤ a.block := by
    intro a ha
    subst ha
    obtain ⟨g, pre, rest, rfl, hbg, _⟩ := hsl.2.2
    exact hbg
  have hsl5 : SL h5 (h.size + 1) 35 4 p7 l8 l9 (acc.map enc) := hsl.keep hch (fun a ha => by have := hpn a ha; simp; omega)
  refine push_of (z := .agg #[.int .i64 0, .string ⟨#[]⟩, .int .u32 0, .int .i64 0]) (sz := 4) (by' := 40) (e := 35) (vs := enc t) (by kernel_rfl) (by kernel_rfl) rfl (by omega) (by omega) (by kernel_rfl) rfl rfl hsl5 (by have := hch.size; omega) (by omega) (by omega) ?_
  intro p' c' h6 hsl6 hch6 _
  refine again_mk (cs := tokCs) ((p2, l3, l4), n5, n6, (p', l8 + 1, c'), some ⟨h.size, 0, none⟩, nn, kk, ()) (s.size - k') rfl (by omega) rfl ?_
  have hnot : h.size ∉ blkOf p7 := by
    cases p7 with
    | none => simp [blkOf]
    | some a => have := hpn a rfl; simp [blkOf]; omega
  refine ⟨k', acc ++ [t], hkk, rfl, hle', rfl, ⟨_, _, _, _, hbox.keep hch6 hnot⟩, ?_, ?_, ?_, ?_, ?_⟩
  · rw [List.map_append]; exact hsl6
  · have e5 : Ext h h5 := Ch.trans hext hch (fun i hi hlt => by simp at hi; omega)
    exact Ch.trans e5 hch6 (fun i hi hlt => by
      cases p7 with
      | none => simp [blkOf] at hi
      | some a => have := hpn a rfl; simp [blkOf] at hi; omega)
  · have := hch.size; have := hch6.size; omega
  · obtain ⟨f, hf, hl⟩ := hlex
    refine ⟨f - 1, by omega, ?_⟩
    rw [hl, show f = (f - 1) + 1 by omega, lexF_tok hstep]
    rfl
  · rw [List.length_append]; simp; omega
theorem tokens_hc (s : ByteArray) (h : Hp) (hs : s.size ≤ 2 ^ 40) (hl : Laid h) : HC Tryd.prog 21 #[.string s] h (tokPost s h) := by
  refine hcr_of (args := [.string s]) mixed Tryd.func21 (by kernel_rfl) (t_lex_Tokens_eq s) ?_
  unfold t_lex_Tokens
  have hsz : s.data.toList.length = s.size := by simp
  refine newB ?_
  intro h1 b1 e1 z1
  refine loop_of (cs := tokCs) (tokI s h) ((none, 0, 0), (0 : Int), (0 : Int), (none, 0, 0), some ⟨h.size, 0, none⟩, (0 : Int), (0 : Int), ()) s.size rfl
    ⟨0, [], rfl, rfl, by omega, by omega, ⟨0, ⟨#[]⟩, 0, 0, b1⟩, SL.nil _ _ _ _, e1, by omega, ⟨s.size + 1, by omega, rfl⟩, by simp⟩ ?_
  rintro ⟨⟨p2, l3, l4⟩, n5, n6, ⟨p7, l8, l9⟩, p10, n11, n12, ⟨⟩⟩ m h2 ⟨k, acc, hk, hp, hle, rfl, ⟨x1, x2, x3, x4, hbox⟩, hsl, hext, hsz2, hlex, hacc⟩
  simp only at hk hp hsl
  subst hk hp
  dsimp only [tokCs, flat, unc, unc1, List.nil_append, List.cons_append]
  have hr0 := rowN_le (s.data.toList.drop k) blanksL
  rw [List.length_drop] at hr0
  obtain ⟨f, hf, hlx⟩ := hlex
  obtain ⟨f, rfl⟩ : ∃ f', f = f' + 1 := ⟨f - 1, by omega⟩
  refine need_of ⟨by omega, by omega, by omega⟩ ?_
  refine call_int (row_hc _ _ h2 (by rw [ext_size]; omega)) ?_
  rw [show Int.toNat (k : Int) = k by omega, drop_ext]
  rw [show (⟨#[9, 13, 32]⟩ : ByteArray).data.toList = blanksL from rfl]
  obtain ⟨a, ha⟩ : ∃ a, a = k + rowN (s.data.toList.drop k) blanksL := ⟨_, rfl⟩
  have hw : IntKind.wrap .i64 ((k : Int) + (rowN (s.data.toList.drop k) blanksL : Int)) = (a : Int) := by rw [wrap_i64 (by omega) (by omega)]; omega
  have hstep0 : lexStep s k = lexAt s a := by unfold lexStep; rw [ha]
  have hat : Int.toNat (a : Int) = a := by omega
  have hale : a ≤ s.size := by omega
  rw [hw]
  clear hw ha
  -- what comes of a stop and of a wrong byte
  have stop : lexAt s a = .stop → tokPost s h (.tuple #[.slice p7 l8 l9, .int .i64 0, .int .i64 0]) h2 := by
    intro hst
    have he : lexS s = (acc, 0, 0) := by rw [hlx, lexF_stop (hstep0.trans hst)]
    exact ⟨p7, l8, l9, by rw [he]; rfl, by rw [he]; exact hsl, hext⟩
  have wrong : ∀ h', lexAt s a = .wrong a → Ext h h' → tokPost s h (.tuple #[.slice none 0 0, .int .i64 a, .int .i64 20]) h' := by
    intro h' hst he'
    have he : lexS s = ([], a, 20) := by rw [hlx, lexF_wrong (hstep0.trans hst)]
    exact ⟨none, 0, 0, by rw [he]; rfl, by rw [he]; exact SL.nil _ _ _ _, he'⟩
  refine cond_mk (fun h3 => ?_) (fun h3 => ?_)
  · have h3 := eq_of_beq h3
    exact stop (by unfold lexAt; rw [if_pos (by omega)])
  have h3 := ne_of_beq_false h3
  have hlt : a < s.size := by omega
  refine need_of ⟨by omega, by omega⟩ ?_
  rw [sbyte_cN, hat]
  refine cond_mk (fun h4 => ?_) (fun h4 => ?_)
  · have h4 := eq_of_beq h4
    have h4 : s.data.toList.getD a 0 = 59 := UInt8.toNat_inj.1 (by unfold cN at h4; show _ = 59; omega)
    exact stop (by unfold lexAt; rw [if_neg (by omega), if_pos h4])
  have h4 := ne_of_beq_false h4
  have h4' : ¬ s.data.toList.getD a 0 = 59 := fun hh => h4 (by rw [hh]; rfl)
  have hA := lexAt.eq_def s a
  rw [if_neg (by omega), if_neg h4'] at hA
  refine osome_mk rfl (stores_of hbox rfl (by simp) ?_)
  intro h3' hb3 hc3 hz3
  refine need_of ⟨by omega, by omega⟩ (need_of ⟨by omega, by omega, by omega⟩ ?_)
  have hdl : (s.data.toList.drop a).length = s.size - a := by rw [List.length_drop, hsz]
  refine call_int (row_hc _ _ h3' (by rw [ext_size]; omega)) ?_
  rw [drop_ext, lset]
  have hpos := rowN_pos (s := s.data.toList.drop a) (set := lettersL) (by omega)
  rw [letters_is, getD_drop] at hpos
  refine cond_mk (fun h5 => ?_) (fun h5 => ?_)
  · have h5 := of_decide_eq_true h5
    have h5 : isLet (s.data.toList.getD a 0) = true := hpos.1 (by omega)
    rw [if_pos h5] at hA
    refine osome_mk rfl (stores_of hb3 rfl (by simp [setL]) ?_)
    intro h4' hb4 hc4 hz4
    refine need_of ⟨by omega, by omega, by omega⟩ ?_
    refine call_int (row_hc _ _ h4' (by rw [ext_size]; omega)) ?_
    rw [drop_ext, gset]
    have hr1 := rowN_le (s.data.toList.drop a) (lettersL ++ digitsL)
    rw [show gluedL = lettersL ++ digitsL from rfl] at hA
    generalize rowN (s.data.toList.drop a) (lettersL ++ digitsL) = n at hA hr1 ⊢
    have c34 : Ch [h.size] h2 h4' := Ch.trans hc3 hc4 (fun i hi _ => hi)
    have e4 : Ext h h4' := Ch.trans hext c34 (fun i hi hlt => by simp at hi; omega)
    refine cond_mk (fun h6 => ?_) (fun h6 => ?_)
    · have h6 := of_decide_eq_true h6
      rw [if_pos (by omega)] at hA
      exact wrong _ hA e4
    · have h6 := of_decide_eq_false h6
      rw [if_neg (by omega)] at hA
      have hw2 : IntKind.wrap .i64 ((a : Int) + (n : Int)) = ((a + n : Nat) : Int) := by rw [wrap_i64 (by omega) (by omega)]; omega
      rw [hw2, show Int.toNat ((a + n : Nat) : Int) = a + n by omega]
      refine need_of ⟨by omega, by omega, by omega⟩ ?_
      refine osome_mk rfl ?_
      rw [add_box]
      refine stores_of hb4 rfl (by simp [setL]) ?_
      intro h5' hb5 hc5 hz5
      refine osome_mk rfl ?_
      exact tok_tail (t := ⟨1, s.extract a (a + n), 0, a⟩) hs hle (hstep0.trans hA) rfl hb5 (Ch.trans c34 hc5 (fun i hi _ => hi)) hsl hext hsz2 ⟨f + 1, hf, hlx⟩ hacc
  have h5 := of_decide_eq_false h5
  have h5 : ¬ isLet (s.data.toList.getD a 0) = true := fun hh => h5 (by have := hpos.2 hh; omega)
  rw [if_neg h5] at hA
  have e3 : Ext h h3' := Ch.trans hext hc3 (fun i hi hlt => by simp at hi; omega)
  refine need_of ⟨by omega, by omega, by omega⟩ ?_
  refine call_int (row_hc _ _ h3' (by rw [ext_size]; omega)) ?_
  rw [drop_ext, show (⟨#[48, 49, 50, 51, 52, 53, 54, 55, 56, 57]⟩ : ByteArray).data.toList = digitsL from rfl]
  have hpos2 := rowN_pos (s := s.data.toList.drop a) (set := digitsL) (by omega)
  rw [digits_is, getD_drop] at hpos2
  refine cond_mk (fun h6 => ?_) (fun h6 => ?_)
  · have h6 := of_decide_eq_true h6
    have h6 : isDig (s.data.toList.getD a 0) = true := hpos2.1 (by omega)
    rw [if_pos h6] at hA
    refine osome_mk rfl (stores_of hb3 rfl (by simp [setL]) ?_)
    intro h4' hb4 hc4 hz4
    have c34 : Ch [h.size] h2 h4' := Ch.trans hc3 hc4 (fun i hi _ => hi)
    have e4 : Ext h h4' := Ch.trans hext c34 (fun i hi hlt => by simp at hi; omega)
    refine need_of ⟨by omega, by omega, by omega⟩ ?_
    refine call_of (number_hc _ h4' (by rw [ext_size]; omega) (hl.ext e4)) ?_
    rintro v h5' ⟨rfl, e5⟩
    rw [drop_ext]
    obtain ⟨hn1, hn2⟩ := numL_le (s.data.toList.drop a)
    generalize numL (s.data.toList.drop a) = r at hA hn1 hn2 ⊢
    refine ⟨((r.1 : Int), (r.2 : Int), ()), rfl, ?_⟩
    dsimp only [unc, unc1, flat, List.nil_append, List.cons_append]
    have hb5 := hb4.keep e5 (by simp)
    refine osome_mk rfl ?_
    rw [add_box]
    refine stores_of hb5 rfl (by simp [setL]) ?_
    intro h6' hb6 hc6 hz6
    have c36 : Ch [h.size] h2 h6' := Ch.trans (Ch.trans c34 e5 (by simp)) hc6 (fun i hi _ => hi)
    have e6 : Ext h h6' := Ch.trans hext c36 (fun i hi hlt => by simp at hi; omega)
    refine cond_mk (fun h7 => ?_) (fun h7 => ?_)
    · have h7 : (r.1 : Int) = 0 := eq_of_beq h7
      rw [if_pos (.inl (by omega))] at hA
      exact wrong _ hA e6
    have h7 : (r.1 : Int) ≠ 0 := ne_of_beq_false h7
    have hw2 : IntKind.wrap .i64 ((a : Int) + (r.1 : Int)) = ((a + r.1 : Nat) : Int) := by rw [wrap_i64 (by omega) (by omega)]; omega
    rw [hw2, show Int.toNat ((a + r.1 : Nat) : Int) = a + r.1 by omega]
    refine need_of ⟨by omega, by omega, by omega⟩ ?_
    refine call_int (row_hc _ _ h6' (by rw [ext_size]; omega)) ?_
    rw [drop_ext, gset]
    rw [show gluedL = lettersL ++ digitsL from rfl] at hA
    refine cond_mk (fun h8 => ?_) (fun h8 => ?_)
    · have h8 := of_decide_eq_true h8
      rw [if_pos (.inr (by omega))] at hA
      exact wrong _ hA e6
    · have h8 := of_decide_eq_false h8
      rw [if_neg (by omega)] at hA
      refine need_of ⟨by omega, by omega, by omega⟩ ?_
      refine osome_mk rfl ?_
      rw [add_box]
      refine stores_of hb6 rfl (by simp [setL]) ?_
      intro h7' hb7 hc7 hz7
      refine osome_mk rfl ?_
      exact tok_tail (t := ⟨2, s.extract a (a + r.1), r.2, a⟩) hs hle (hstep0.trans hA) rfl hb7 (Ch.trans c36 hc7 (fun i hi _ => hi)) hsl hext hsz2 ⟨f + 1, hf, hlx⟩ hacc
  have h6 := of_decide_eq_false h6
  have h6 : ¬ isDig (s.data.toList.getD a 0) = true := fun hh => h6 (by have := hpos2.2 hh; omega)
  rw [if_neg h6] at hA
  have hsb : ∀ j : Nat, sbyte s ((a + j : Nat) : Int) = cN (s.data.toList.getD (a + j) 0) := fun j => by rw [sbyte_cN, show Int.toNat ((a + j : Nat) : Int) = a + j by omega]
  have hcc : ∀ (c : UInt8) (n : Nat), n < 256 → ((cN c = (n : Int)) ↔ c.toNat = n) := fun c n hn => by unfold cN; omega
  refine cond_mk (fun h7 => ?_) (fun h7 => ?_)
  · have h7 : cN (s.data.toList.getD a 0) = 39 := eq_of_beq h7
    have h7 : s.data.toList.getD a 0 = 39 := UInt8.toNat_inj.1 (by unfold cN at h7; show _ = 39; omega)
    rw [if_pos h7] at hA
    have hw3 : IntKind.wrap .i64 ((s.size : Int) - (a : Int)) = (s.size : Int) - (a : Int) := wrap_i64 (by omega) (by omega)
    have hw4 : IntKind.wrap .i64 ((a : Int) + 1) = ((a + 1 : Nat) : Int) := by rw [wrap_i64 (by omega) (by omega)]; omega
    have hw5 : IntKind.wrap .i64 ((a : Int) + 2) = ((a + 2 : Nat) : Int) := by rw [wrap_i64 (by omega) (by omega)]; omega
    have hw6 : IntKind.wrap .i64 ((a : Int) + 3) = ((a + 3 : Nat) : Int) := by rw [wrap_i64 (by omega) (by omega)]; omega
    rw [hw3, hw4, hw5, hw6, hsb 1, hsb 2]
    refine cond_mk (fun h8 => ?_) (fun h8 => ?_)
    · have h8 := of_decide_eq_true h8
      rw [if_pos (.inl (by omega))] at hA
      exact wrong _ hA e3
    have h8 := of_decide_eq_false h8
    have hb1 := (s.data.toList.getD (a + 1) 0).toNat_lt
    refine need_of ⟨by omega, by omega⟩ ?_
    refine cond_mk (fun h9 => ?_) (fun h9 => ?_)
    · have h9 := of_decide_eq_true h9
      rw [if_pos (.inr (.inl (by unfold cN at h9; omega)))] at hA
      exact wrong _ hA e3
    have h9 := of_decide_eq_false h9
    refine need_of ⟨by omega, by omega⟩ ?_
    refine cond_mk (fun h10 => ?_) (fun h10 => ?_)
    · have h10 := of_decide_eq_true h10
      rw [if_pos (.inr (.inr (.inl (by unfold cN at h10; omega))))] at hA
      exact wrong _ hA e3
    have h10 := of_decide_eq_false h10
    refine need_of ⟨by omega, by omega⟩ ?_
    refine cond_mk (fun h11 => ?_) (fun h11 => ?_)
    · have h11 := eq_of_beq h11
      rw [if_pos (.inr (.inr (.inr (.inl (UInt8.toNat_inj.1 (by unfold cN at h11; show _ = 39; omega))))))] at hA
      exact wrong _ hA e3
    have h11 := ne_of_beq_false h11
    refine need_of ⟨by omega, by omega⟩ ?_
    refine cond_mk (fun h12 => ?_) (fun h12 => ?_)
    · have h12 : cN (s.data.toList.getD (a + 2) 0) ≠ 39 := by simpa using h12
      rw [if_pos (.inr (.inr (.inr (.inr (fun hh => h12 (by rw [hh]; rfl))))))] at hA
      exact wrong _ hA e3
    have h12 : cN (s.data.toList.getD (a + 2) 0) = 39 := by simpa using h12
    have h12 : s.data.toList.getD (a + 2) 0 = 39 := UInt8.toNat_inj.1 (by unfold cN at h12; show _ = 39; omega)
    rw [if_neg (by
      intro hh
      rcases hh with hh | hh | hh | hh | hh
      · omega
      · unfold cN at h9; omega
      · unfold cN at h10; omega
      · exact h11 (by rw [hh]; rfl)
      · exact hh h12)] at hA
    refine need_of ⟨by omega, by omega⟩ ?_
    refine osome_mk rfl (stores_of hb3 rfl (by simp [setL]) ?_)
    intro h4' hb4 hc4 hz4
    refine osome_mk rfl ?_
    rw [add_box]
    refine stores_of hb4 rfl (by simp [setL]) ?_
    intro h5' hb5 hc5 hz5
    refine need_of ⟨by omega, by omega, by omega⟩ ?_
    refine osome_mk rfl ?_
    rw [add_box]
    refine stores_of hb5 rfl (by simp [setL]) ?_
    intro h6' hb6 hc6 hz6
    refine osome_mk rfl ?_
    rw [show Int.toNat ((a + 3 : Nat) : Int) = a + 3 by omega] at hb6
    rw [show IntKind.wrap .u32 (cN (s.data.toList.getD (a + 1) 0)) = (((s.data.toList.getD (a + 1) 0).toNat : Nat) : Int) from wrap_u32 (by unfold cN; omega) (by unfold cN; omega)] at hb6
    have c36 : Ch [h.size] h2 h6' := Ch.trans (Ch.trans (Ch.trans hc3 hc4 (fun i hi _ => hi)) hc5 (fun i hi _ => hi)) hc6 (fun i hi _ => hi)
    exact tok_tail (t := ⟨2, s.extract a (a + 3), (s.data.toList.getD (a + 1) 0).toNat, a⟩) hs hle (hstep0.trans hA) rfl hb6 c36 hsl hext hsz2 ⟨f + 1, hf, hlx⟩ hacc
  have h7 := ne_of_beq_false h7
  have h7 : ¬ s.data.toList.getD a 0 = 39 := fun hh => h7 (by rw [hh]; rfl)
  rw [if_neg h7] at hA
  refine call_int (indexByte_hc _ _ _) ?_
  rw [show (⟨#[58, 44, 40, 41, 43, 45, 42, 61]⟩ : ByteArray).data.toList = signsL from rfl]
  have hcon := Lib.contains_iff_indexByte signsL (s.data.toList.getD a 0)
  rw [show (cN (s.data.toList.getD a 0)).toNat.toUInt8 = s.data.toList.getD a 0 from by unfold cN; simp]
  refine cond_mk (fun h8 => ?_) (fun h8 => ?_)
  · have h8 := of_decide_eq_true h8
    rw [if_pos (by rw [hcon]; exact decide_eq_true h8)] at hA
    refine osome_mk rfl (stores_of hb3 rfl (by simp [setL]) ?_)
    intro h4' hb4 hc4 hz4
    have hw4 : IntKind.wrap .i64 ((a : Int) + 1) = ((a + 1 : Nat) : Int) := by rw [wrap_i64 (by omega) (by omega)]; omega
    rw [hw4]
    refine need_of ⟨by omega, by omega, by omega⟩ ?_
    refine osome_mk rfl ?_
    rw [add_box]
    refine stores_of hb4 rfl (by simp [setL]) ?_
    intro h5' hb5 hc5 hz5
    refine osome_mk rfl ?_
    rw [show Int.toNat ((a + 1 : Nat) : Int) = a + 1 by omega] at hb5
    exact tok_tail (t := ⟨3, s.extract a (a + 1), 0, a⟩) hs hle (hstep0.trans hA) rfl hb5 (Ch.trans (Ch.trans hc3 hc4 (fun i hi _ => hi)) hc5 (fun i hi _ => hi)) hsl hext hsz2 ⟨f + 1, hf, hlx⟩ hacc
  · have h8 := of_decide_eq_false h8
    rw [if_neg (by rw [hcon]; exact fun hh => h8 (of_decide_eq_true hh))] at hA
    exact wrong _ hA e3
end Go.Sx
