/- The document's Tokens answers as the plain lexer. Condition: at most 2^40 bytes. -/
import Derived.Test.YtpbjlnlekobodaaDoorLexM
import Derived.Test.YtpbjlnlekobodaaDoorLexQ
set_option linter.unusedVariables false
set_option linter.unusedSimpArgs false
set_option linter.deprecated false
set_option maxRecDepth 100000
namespace Go.Sx
open Go.Proofs
abbrev tok2Cs : List Comp := [(false, [.slice 0]), (false, [.int .i64]), (false, [.int .i64]), (false, [.slice 0]), (false, [.int .i64])]
def tok2I (s : ByteArray) (h : Hp) (x : HVs (flat tok2Cs)) (n : Nat) (h' : Hp) : Prop :=
  ∃ (k : Nat) (acc : List Tok), x.2.2.2.2.1 = (k : Int) ∧ k ≤ s.size ∧ n = s.size - k ∧
    SL h' h.size 105 4 x.2.2.2.1.1 x.2.2.2.1.2.1 x.2.2.2.1.2.2 (acc.map enc) ∧ Ext h h' ∧
    (∃ f, s.size - k < f ∧ lexS s = lexF s f k acc) ∧ acc.length ≤ k
def tok2Post (s : ByteArray) (h : Hp) (v : Value) (h' : Hp) : Prop :=
  ∃ p l c, v = .tuple #[.slice p l c, .int .i64 (lexS s).2.1, .int .i64 (lexS s).2.2] ∧ SL h' h.size 105 4 p l c ((lexS s).1.map enc) ∧ Ext h h'
def pushT (s0 : ByteArray) (p1 : Option Addr) (l2 l3 : Nat) (n4 n5 : Int) (p6 : Option Addr) (l7 l8 : Nat) (kind num n9 n11 : Int) : T :=
  T.need (((0 : Int) ≤ n9) ∧ ((n9 ≤ n11) ∧ (n11 ≤ (s0.size : Int)))) <|
  T.sem Tryd.prog (Instr.buildSlice 27 1 #[(0, .agg #[.int .i64 kind, .string (ByteArray.extract s0 (Int.toNat n9) (Int.toNat n11)), .int .u32 num, .int .i64 n9])]) false [(false, [.slice 0])] <| fun (p14 : Option Addr) (l15 : Nat) (l16 : Nat) =>
  T.sem Tryd.prog (Builtin.append_ #[27, 27] 27 #[.slice p6 l7 l8, .slice p14 l15 l16]) false [(false, [.slice 0])] <| fun (p17 : Option Addr) (l18 : Nat) (l19 : Nat) =>
  T.again 0 [.slice p1 l2 l3, .int .i64 n4, .int .i64 n5, .slice p17 l18 l19, .int .i64 n11]
theorem push2_ok {s : ByteArray} {h h2 : Hp} {L : Lp} {K : Value → Hp → Prop} {k k' kind num : Nat} {acc : List Tok} {p1 p6 : Option Addr} {l2 l3 l7 l8 : Nat} {n4 n5 nk' nkind nnum : Int} (hs : s.size ≤ 2 ^ 40) (hle : k ≤ s.size)
    (hL : L[0]? = some (Jl (cs := tok2Cs) (tok2I s h) (s.size - k))) (e1 : nk' = (k' : Int)) (e2 : nkind = (kind : Int)) (e3 : nnum = (num : Int))
    (hstep : lexStep s k = .tok ⟨kind, s.extract k k', num, k⟩ k') (hsl : SL h2 h.size 105 4 p6 l7 l8 (acc.map enc)) (hext : Ext h h2)
    (hlex : ∃ f, s.size - k < f ∧ lexS s = lexF s f k acc) (hacc : acc.length ≤ k) : pushT s p1 l2 l3 n4 n5 p6 l7 l8 nkind nnum k nk' L K h2 := by
  subst e1 e2 e3
  obtain ⟨hlt, hle'⟩ := lexStep_tok hle hstep
  have hlacc : l7 = acc.length := by rw [hsl.1, List.length_map]
  unfold pushT
  refine need_of ⟨by omega, by omega, by omega⟩ ?_
  rw [show Int.toNat (k : Int) = k by omega, show Int.toNat (k' : Int) = k' by omega]
  refine push_of (z := .agg #[.int .i64 0, .string ⟨#[]⟩, .int .u32 0, .int .i64 0]) (sz := 4) (by' := 40) (e := 105) (vs := enc ⟨kind, s.extract k k', num, k⟩) (by kernel_rfl) (by kernel_rfl) rfl (by omega) (by omega) (by kernel_rfl) rfl rfl hsl hext.size (by omega) (by omega) ?_
  intro p' c' h6 hsl6 hch6 _
  refine again_mk (cs := tok2Cs) ((p1, l2, l3), n4, n5, (p', l7 + 1, c'), (k' : Int), ()) (s.size - k') hL (by omega) rfl ?_
  refine ⟨k', acc ++ [⟨kind, s.extract k k', num, k⟩], rfl, hle', rfl, ?_, ?_, ?_, ?_⟩
  · rw [List.map_append]; exact hsl6
  · exact Ch.trans hext hch6 (fun i hi hlt => by
      cases p6 with
      | none => simp [blkOf] at hi
      | some a =>
        obtain ⟨g, pre, rest, rfl, hbg, _⟩ := hsl.2.2
        simp [blkOf] at hi; omega)
  · obtain ⟨f, hf, hl⟩ := hlex
    refine ⟨f - 1, by omega, ?_⟩
    rw [hl, show f = (f - 1) + 1 by omega, lexF_tok hstep]
    rfl
  · rw [List.length_append]; simp; omega
def nameTail (s0 : ByteArray) (p1 : Option Addr) (l2 l3 : Nat) (n4 n5 : Int) (p6 : Option Addr) (l7 l8 : Nat) (n9 n11 : Int) : T :=
  cond (decide ((IntKind.wrap .i64 (n11 - n9)) > (32 : Int)))
   (T.ret (.tuple #[.slice none 0 0, .int .i64 n9, .int .i64 (20 : Int)]))
   (pushT s0 p1 l2 l3 n4 n5 p6 l7 l8 1 0 n9 n11)
theorem lexF_move {s : ByteArray} {f k k' : Nat} {acc : List Tok} (h : lexStep s k = lexStep s k') : lexF s (f + 1) k acc = lexF s (f + 1) k' acc := by
  show (match lexStep s k with
    | .stop => (acc, 0, 0)
    | .wrong a => ([], a, 20)
    | .tok t k' => lexF s f k' (acc ++ [t])) = (match lexStep s k' with
    | .stop => (acc, 0, 0)
    | .wrong a => ([], a, 20)
    | .tok t k' => lexF s f k' (acc ++ [t]))
  rw [h]
theorem drop_cons {s : ByteArray} {k : Nat} (hk : k < s.size) : s.data.toList.drop k = s.data.toList.getD k 0 :: s.data.toList.drop (k + 1) := by
  have hsz : s.data.toList.length = s.size := by simp
  rw [List.drop_eq_getElem_cons (by omega)]
  congr 1
  rw [List.getD_eq_getElem?_getD, List.getElem?_eq_getElem (by omega)]; rfl
theorem lexStep_blank {s : ByteArray} {k : Nat} (hk : k < s.size) (hb : blanksL.contains (s.data.toList.getD k 0) = true) : lexStep s k = lexStep s (k + 1) := by
  unfold lexStep
  have : rowN (s.data.toList.drop k) blanksL = rowN (s.data.toList.drop (k + 1)) blanksL + 1 := by
    rw [drop_cons hk]
    unfold rowN
    rw [List.takeWhile_cons, hb]
    simp
  rw [this]
  congr 1
  omega
theorem lexStep_none {s : ByteArray} {k : Nat} (hb : k < s.size → blanksL.contains (s.data.toList.getD k 0) = false) : lexStep s k = lexAt s k := by
  have hsz : s.data.toList.length = s.size := by simp
  unfold lexStep
  have : rowN (s.data.toList.drop k) blanksL = 0 := by
    rcases Nat.lt_or_ge k s.size with hk | hk
    · rw [drop_cons hk]
      unfold rowN
      rw [List.takeWhile_cons, hb hk]
      simp
    · rw [List.drop_eq_nil_of_le (by omega)]; rfl
  rw [this, Nat.add_zero]
theorem tokens2_hc (s : ByteArray) (h : Hp) (hs : s.size ≤ 2 ^ 40) : HC Tryd.prog 22 #[.string s] h (tok2Post s h) := by
  refine hcr_of (args := [.string s]) mixed Tryd.func22 (by kernel_rfl) (t_spandrelref2_Tokens_eq s) ?_
  unfold t_spandrelref2_Tokens
  have hsz : s.data.toList.length = s.size := by simp
  refine loop_of (cs := tok2Cs) (tok2I s h) ((none, 0, 0), (0 : Int), (0 : Int), (none, 0, 0), (0 : Int), ()) s.size rfl
    ⟨0, [], rfl, by omega, by omega, SL.nil _ _ _ _, Ch.refl _ _, ⟨s.size + 1, by omega, rfl⟩, by simp⟩ ?_
  rintro ⟨⟨p1, l2, l3⟩, n4, n5, ⟨p6, l7, l8⟩, n9, ⟨⟩⟩ m h2 ⟨k, acc, hk, hle, rfl, hsl, hext, hlex, hacc⟩
  simp only at hk hsl
  subst hk
  dsimp only [tok2Cs, flat, unc, unc1, List.nil_append, List.cons_append]
  have stop : lexStep s k = .stop → tok2Post s h (.tuple #[.slice p6 l7 l8, .int .i64 0, .int .i64 0]) h2 := by
    intro hst
    obtain ⟨f, hf, hlx⟩ := hlex
    obtain ⟨f, rfl⟩ : ∃ f', f = f' + 1 := ⟨f - 1, by omega⟩
    have he : lexS s = (acc, 0, 0) := by rw [hlx, lexF_stop hst]
    exact ⟨p6, l7, l8, by rw [he]; rfl, by rw [he]; exact hsl, hext⟩
  have wrong : lexStep s k = .wrong k → tok2Post s h (.tuple #[.slice none 0 0, .int .i64 k, .int .i64 20]) h2 := by
    intro hst
    obtain ⟨f, hf, hlx⟩ := hlex
    obtain ⟨f, rfl⟩ : ∃ f', f = f' + 1 := ⟨f - 1, by omega⟩
    have he : lexS s = ([], k, 20) := by rw [hlx, lexF_wrong hst]
    exact ⟨none, 0, 0, by rw [he]; rfl, by rw [he]; exact SL.nil _ _ _ _, hext⟩
  refine cond_mk (fun h1 => ?_) (fun h1 => ?_)
  · have h1 := of_decide_eq_true h1
    have hlt : k < s.size := by omega
    refine need_of ⟨by omega, by omega⟩ ?_
    have hb : sbyte s (k : Int) = cN (s.data.toList.getD k 0) := by rw [sbyte_cN, show Int.toNat (k : Int) = k by omega]
    have hw1 : IntKind.wrap .i64 ((k : Int) + 1) = ((k + 1 : Nat) : Int) := by rw [wrap_i64 (by omega) (by omega)]; omega
    rw [hb, hw1]
    have blank : blanksL.contains (s.data.toList.getD k 0) = true → (T.again 0 [.slice p1 l2 l3, .int .i64 n4, .int .i64 n5, .slice p6 l7 l8, .int .i64 ((k + 1 : Nat) : Int)]) [Jl (cs := tok2Cs) (tok2I s h) (s.size - k)] (tok2Post s h) h2 := by
      intro hbl
      refine again_mk (cs := tok2Cs) ((p1, l2, l3), n4, n5, (p6, l7, l8), ((k + 1 : Nat) : Int), ()) (s.size - (k + 1)) rfl (by omega) rfl ?_
      refine ⟨k + 1, acc, rfl, by omega, rfl, hsl, hext, ?_, by omega⟩
      obtain ⟨f, hf, hlx⟩ := hlex
      obtain ⟨f, rfl⟩ : ∃ f', f = f' + 1 := ⟨f - 1, by omega⟩
      exact ⟨f + 1, by omega, by rw [hlx, lexF_move (lexStep_blank hlt hbl)]⟩
    refine cond_mk (fun h59 => ?_) (fun h59 => ?_)
    · have h59 := (cN_eq _ 59 rfl).1 (eq_of_beq h59)
      refine stop ?_
      rw [lexStep_none (fun _ => by rw [h59]; rfl)]
      unfold lexAt
      rw [if_neg (by omega), if_pos h59]
    have h2' := fun hh => ne_of_beq_false h59 ((cN_eq _ 59 rfl).2 hh)
    refine cond_mk (fun h3 => ?_) (fun h3 => ?_)
    · have h3 := (cN_eq _ 9 rfl).1 (eq_of_beq h3)
      exact blank (by rw [h3]; rfl)
    have h3' := fun hh => ne_of_beq_false h3 ((cN_eq _ 9 rfl).2 hh)
    refine cond_mk (fun h4 => ?_) (fun h4 => ?_)
    · have h4 := (cN_eq _ 13 rfl).1 (eq_of_beq h4)
      exact blank (by rw [h4]; rfl)
    have h4' := fun hh => ne_of_beq_false h4 ((cN_eq _ 13 rfl).2 hh)
    refine cond_mk (fun h5 => ?_) (fun h5 => ?_)
    · have h5 := (cN_eq _ 32 rfl).1 (eq_of_beq h5)
      exact blank (by rw [h5]; rfl)
    have h5' := fun hh => ne_of_beq_false h5 ((cN_eq _ 32 rfl).2 hh)
    have hnone : lexStep s k = lexAt s k := lexStep_none (fun _ => by
      simp only [blanksL, List.contains_cons, List.contains_nil, Bool.or_false, Bool.or_eq_false_iff, beq_eq_false_iff_ne]
      exact ⟨h3', h4', h5'⟩)
    have hA := lexAt.eq_def s k
    rw [if_neg (by omega), if_neg h2'] at hA
    have hAD := lexAt_lexD s k hle
    have hD0 : (s.data.toList.drop k).getD 0 0 = s.data.toList.getD k 0 := by rw [getD_drop', Nat.add_zero]
    have hDne : s.data.toList.drop k ≠ [] := by rw [drop_cons hlt]; simp
    -- a number
    have num : (isDig (s.data.toList.getD k 0) = true ∨ s.data.toList.getD k 0 = 39) →
        (T.call Tryd.prog 70 [.string s, .int .i64 k] true [(false, [.int .u32]), (false, [.int .i64])] <| fun (n12 : Int) (n13 : Int) =>
          cond (n13 == (0 : Int))
           (T.ret (.tuple #[.slice none 0 0, .int .i64 k, .int .i64 (20 : Int)]))
           (pushT s p1 l2 l3 n4 n5 p6 l7 l8 2 n12 k n13)) [Jl (cs := tok2Cs) (tok2I s h) (s.size - k)] (tok2Post s h) h2 := by
      intro hd
      refine call_ii (number2_hc s k _ hs hlt hd) ?_
      have hl := lexD_num (D := s.data.toList.drop k) (by rw [hD0]; exact hd) hDne
      refine cond_mk (fun h6 => ?_) (fun h6 => ?_)
      · have h6 : ((if (numR (s.data.toList.drop k)).2 = 0 then (0 : Nat) else k + (numR (s.data.toList.drop k)).2 : Nat) : Int) = 0 := eq_of_beq h6
        have h7 : (numR (s.data.toList.drop k)).2 = 0 := by
          by_cases h7 : (numR (s.data.toList.drop k)).2 = 0
          · exact h7
          · rw [if_neg h7] at h6; omega
        rw [if_pos h7] at hl
        refine wrong ?_
        rw [hnone, hAD, hl]
        rfl
      · have h6 : ((if (numR (s.data.toList.drop k)).2 = 0 then (0 : Nat) else k + (numR (s.data.toList.drop k)).2 : Nat) : Int) ≠ 0 := ne_of_beq_false h6
        have h7 : (numR (s.data.toList.drop k)).2 ≠ 0 := fun h7 => by rw [if_pos h7] at h6; exact h6 rfl
        rw [if_neg h7] at hl
        refine push2_ok (k' := k + (numR (s.data.toList.drop k)).2) (kind := 2) (num := (numR (s.data.toList.drop k)).1) hs hle rfl (by rw [if_neg h7]) rfl rfl ?_ hsl hext hlex hacc
        rw [hnone, hAD, hl]
        rfl
    refine call_bool (letter_hc _ _) (cond_mk (fun h6 => ?_) (fun h6 => ?_))
    · rw [if_pos h6] at hA
      have hr := rowN_le (s.data.toList.drop k) gluedL
      rw [List.length_drop] at hr
      have tail : (nameTail s p1 l2 l3 n4 n5 p6 l7 l8 k ((k + rowN (s.data.toList.drop k) gluedL : Nat) : Int)) = (nameTail s p1 l2 l3 n4 n5 p6 l7 l8 k ((k + rowN (s.data.toList.drop k) gluedL : Nat) : Int)) := rfl
      have tailok : ∀ Q, (nameTail s p1 l2 l3 n4 n5 p6 l7 l8 k ((k + rowN (s.data.toList.drop k) gluedL : Nat) : Int)) [Jl (cs := tok2Cs) (tok2I s h) (s.size - k), Q] (tok2Post s h) h2 := by
        intro Q
        unfold nameTail
        have hw : IntKind.wrap .i64 (((k + rowN (s.data.toList.drop k) gluedL : Nat) : Int) - (k : Int)) = (rowN (s.data.toList.drop k) gluedL : Int) := by rw [wrap_i64 (by omega) (by omega)]; omega
        rw [hw]
        refine cond_mk (fun h7 => ?_) (fun h7 => ?_)
        · have h7 := of_decide_eq_true h7
          rw [if_pos (by omega)] at hA
          exact wrong (hnone.trans hA)
        · have h7 := of_decide_eq_false h7
          rw [if_neg (by omega)] at hA
          exact push2_ok (kind := 1) (num := 0) hs hle rfl rfl rfl rfl (hnone.trans hA) hsl hext hlex hacc
      clear tail
      refine loop_of (cs := [(false, [.int .i64])]) (fun x n h' => h' = h2 ∧ ∃ j : Nat, x.1 = ((k + j : Nat) : Int) ∧ j ≤ rowN (s.data.toList.drop k) gluedL ∧ n = rowN (s.data.toList.drop k) gluedL - j)
        ((k : Int), ()) (rowN (s.data.toList.drop k) gluedL) rfl ⟨rfl, 0, rfl, by omega, by omega⟩ ?_
      rintro ⟨n11, ⟨⟩⟩ m h3 ⟨rfl, j, hn11, hjr, rfl⟩
      simp only at hn11
      subst hn11
      dsimp only [flat, unc, unc1, List.nil_append, List.cons_append]
      have hst := rowN_step (s.data.toList.drop k) gluedL j hjr
      rw [getD_drop', show gluedL = lettersL ++ digitsL from rfl, glued_is, List.length_drop, ← show gluedL = lettersL ++ digitsL from rfl] at hst
      have hw2 : k + j < s.size → IntKind.wrap .i64 (((k + j : Nat) : Int) + 1) = ((k + (j + 1) : Nat) : Int) := fun _ => by rw [wrap_i64 (by omega) (by omega)]; omega
      refine cond_mk (fun h7 => ?_) (fun h7 => ?_)
      · have h7 := of_decide_eq_true h7
        have hst := hst (by omega)
        have hb : sbyte s ((k + j : Nat) : Int) = cN (s.data.toList.getD (k + j) 0) := by rw [sbyte_cN, show Int.toNat ((k + j : Nat) : Int) = k + j by omega]
        refine need_of ⟨by omega, by omega⟩ ?_
        rw [hb, hw2 (by omega)]
        refine call_bool (letter_hc _ _) (cond_mk (fun h8 => ?_) (fun h8 => ?_))
        · have h9 := hst.2 (by rw [h8]; rfl)
          exact again_mk (cs := [(false, [.int .i64])]) (((k + (j + 1) : Nat) : Int), ()) (rowN (s.data.toList.drop k) gluedL - (j + 1)) rfl (by omega) rfl ⟨rfl, j + 1, rfl, by omega, rfl⟩
        · refine need_of ⟨by omega, by omega⟩ (call_bool (digit_hc _ _) (cond_mk (fun h9 => ?_) (fun h9 => ?_)))
          · have h10 := hst.2 (by rw [h9]; simp)
            exact again_mk (cs := [(false, [.int .i64])]) (((k + (j + 1) : Nat) : Int), ()) (rowN (s.data.toList.drop k) gluedL - (j + 1)) rfl (by omega) rfl ⟨rfl, j + 1, rfl, by omega, rfl⟩
          · have h10 : j = rowN (s.data.toList.drop k) gluedL := by
              have : ¬ j < rowN (s.data.toList.drop k) gluedL := fun hh => by have := hst.1 hh; rw [h8, h9] at this; cases this
              omega
            subst h10
            exact tailok _
      · have h7 := of_decide_eq_false h7
        have h10 : j = rowN (s.data.toList.drop k) gluedL := by omega
        subst h10
        exact tailok _
    rw [if_neg (by rw [h6]; simp)] at hA
    refine call_bool (digit_hc _ _) (cond_mk (fun h7 => ?_) (fun h7 => ?_))
    · exact num (.inl h7)
    rw [if_neg (by rw [h7]; simp)] at hA
    refine cond_mk (fun h8 => ?_) (fun h8 => ?_)
    · exact num (.inr ((cN_eq _ 39 rfl).1 (eq_of_beq h8)))
    rw [if_neg (fun hh => ne_of_beq_false h8 ((cN_eq _ 39 rfl).2 hh))] at hA
    have sign : signsL.contains (s.data.toList.getD k 0) = true → (pushT s p1 l2 l3 n4 n5 p6 l7 l8 3 0 k ((k + 1 : Nat) : Int)) [Jl (cs := tok2Cs) (tok2I s h) (s.size - k)] (tok2Post s h) h2 := by
      intro hsg
      rw [if_pos hsg] at hA
      exact push2_ok (kind := 3) (num := 0) hs hle rfl rfl rfl rfl (hnone.trans hA) hsl hext hlex hacc
    have sg : ∀ (d : UInt8) (n : Int), cN d = n → signsL.contains d = true → (cN (s.data.toList.getD k 0) != n) = false → (pushT s p1 l2 l3 n4 n5 p6 l7 l8 3 0 k ((k + 1 : Nat) : Int)) [Jl (cs := tok2Cs) (tok2I s h) (s.size - k)] (tok2Post s h) h2 := by
      intro d n hd hc he
      have he : cN (s.data.toList.getD k 0) = n := by simpa using he
      exact sign (by rw [(cN_eq _ d hd).1 he]; exact hc)
    have ns : ∀ (d : UInt8) (n : Int), cN d = n → (cN (s.data.toList.getD k 0) != n) = true → s.data.toList.getD k 0 ≠ d := by
      intro d n hd he hh
      have he : cN (s.data.toList.getD k 0) ≠ n := by simpa using he
      exact he ((cN_eq _ d hd).2 hh)
    refine cond_mk (fun g1 => ?_) (fun g1 => sg 58 58 rfl rfl g1)
    refine cond_mk (fun g2 => ?_) (fun g2 => sg 44 44 rfl rfl g2)
    refine cond_mk (fun g3 => ?_) (fun g3 => sg 40 40 rfl rfl g3)
    refine cond_mk (fun g4 => ?_) (fun g4 => sg 41 41 rfl rfl g4)
    refine cond_mk (fun g5 => ?_) (fun g5 => sg 43 43 rfl rfl g5)
    refine cond_mk (fun g6 => ?_) (fun g6 => sg 45 45 rfl rfl g6)
    refine cond_mk (fun g7 => ?_) (fun g7 => sg 42 42 rfl rfl g7)
    refine cond_mk (fun g8 => ?_) (fun g8 => sg 61 61 rfl rfl g8)
    rw [if_neg (by
      simp only [signsL, List.contains_cons, List.contains_nil, Bool.or_false, Bool.or_eq_true, beq_iff_eq]
      rintro (hh | hh | hh | hh | hh | hh | hh | hh)
      · exact ns 58 58 rfl g1 hh
      · exact ns 44 44 rfl g2 hh
      · exact ns 40 40 rfl g3 hh
      · exact ns 41 41 rfl g4 hh
      · exact ns 43 43 rfl g5 hh
      · exact ns 45 45 rfl g6 hh
      · exact ns 42 42 rfl g7 hh
      · exact ns 61 61 rfl g8 hh)] at hA
    exact wrong (hnone.trans hA)
  · have h1 := of_decide_eq_false h1
    refine stop ?_
    rw [lexStep_none (fun hh => by omega)]
    unfold lexAt
    rw [if_pos (by omega)]
end Go.Sx
