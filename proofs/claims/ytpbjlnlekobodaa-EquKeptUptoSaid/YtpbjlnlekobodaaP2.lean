/- Contracts over heaps, and plain laws, for the functions that the laws of chapter 11 call, part 2: The reading of an expression, in plain words: signs, factors, parts, sums, of tokens. The parser's small parts over heaps: its signs, its refusals, a name's Lin. A factor, read over heaps: the closure of Parse that reads one does what the plain words say. Parts and sums, read over heaps: the closures of Parse do what the plain words say. Sums, read over heaps: the closure of Parse does what the plain words say. The document's sums over heaps: its signs, refusals, Times, Add, Same. Right, Same, of the program and of the document, over heaps. Same, slices.Equal, append of terms, over heaps. Copies of lists, over heaps: copy of a slice into a slice. Roomy and Intact of the book of memory, of terms: a copy with room behind it; it stays as it was. Condition: as each statement says. -/
import Derived.Test.YtpbjlnlekobodaaP1
import Derived.Test.YtpbjlnlekobodaaEquV
import Derived.Test.YtpbjlnlekobodaaSxE
set_option linter.unusedVariables false
set_option maxRecDepth 100000
namespace Go.Sx
open Go.Proofs
def numV (D : List UInt8) (a : Nat) : Value := .tuple #[.int .u32 (numR D).1, .int .i64 (if (numR D).2 = 0 then (0 : Nat) else a + (numR D).2 : Nat)]
def glueT (s0 : ByteArray) (n2 n3 : Int) : T :=
 cond (decide (n2 < (s0.size : Int)))
  (T.need (((0 : Int) ≤ n2) ∧ (n2 < (s0.size : Int))) <|
  T.call Try.prog 37 [.int .u8 (sbyte s0 n2)] false [(false, [.bool])] <| fun (b4 : Bool) =>
  cond b4
   (T.ret (.tuple #[.int .u32 (0 : Int), .int .i64 (0 : Int)]))
   (T.need (((0 : Int) ≤ n2) ∧ (n2 < (s0.size : Int))) <|
   T.call Try.prog 38 [.int .u8 (sbyte s0 n2)] false [(false, [.bool])] <| fun (b5 : Bool) =>
   cond b5
    (T.ret (.tuple #[.int .u32 (0 : Int), .int .i64 (0 : Int)]))
    (T.ret (.tuple #[.int .u32 (IntKind.wrap .u32 n3), .int .i64 n2]))))
  (T.ret (.tuple #[.int .u32 (IntKind.wrap .u32 n3), .int .i64 n2]))
theorem rowN_drop_pos {s : ByteArray} {i : Nat} (hi : i < s.size) : 0 < rowN (s.data.toList.drop i) gluedL ↔ (isLet (s.data.toList.getD i 0) || isDig (s.data.toList.getD i 0)) = true := by
  have hsz : s.data.toList.length = s.size := by simp
  rw [← glued_is]
  have := rowN_step (s.data.toList.drop i) gluedL 0 (by omega) (by rw [List.length_drop]; omega)
  rw [getD_drop', Nat.add_zero] at this
  exact this
theorem glue_ok {s : ByteArray} {i n : Nat} {L : Lp} {K : Value → Hp → Prop} {h : Hp} (hi : i ≤ s.size) (hn : n < 4294967296)
    (hk : K (if 0 < rowN (s.data.toList.drop i) gluedL then .tuple #[.int .u32 0, .int .i64 0] else .tuple #[.int .u32 n, .int .i64 i]) h) : glueT s i n L K h := by
  unfold glueT
  have hsz : s.data.toList.length = s.size := by simp
  have hw : IntKind.wrap .u32 (n : Int) = n := wrap_u32 (by omega) (by omega)
  rw [hw]
  refine cond_mk (fun h1 => ?_) (fun h1 => ?_)
  · have h1 := of_decide_eq_true h1
    have hp := rowN_drop_pos (s := s) (i := i) (by omega)
    have hb : sbyte s (i : Int) = cN (s.data.toList.getD i 0) := by rw [sbyte_cN, show Int.toNat (i : Int) = i by omega]
    refine need_of ⟨by omega, by omega⟩ ?_
    rw [hb]
    refine call_bool (letter_hc _ h) (cond_mk (fun h2 => ?_) (fun h2 => ?_))
    · rw [if_pos (hp.2 (by rw [h2]; rfl))] at hk
      exact hk
    · refine need_of ⟨by omega, by omega⟩ (call_bool (digit_hc _ h) (cond_mk (fun h3 => ?_) (fun h3 => ?_)))
      · rw [if_pos (hp.2 (by rw [h3]; simp))] at hk
        exact hk
      · rw [if_neg (fun hh => by have := hp.1 hh; rw [h2, h3] at this; cases this)] at hk
        exact hk
  · have h1 := of_decide_eq_false h1
    rw [if_neg (by rw [List.drop_eq_nil_of_le (by omega)]; simp [rowN])] at hk
    exact hk
def decTail (s0 : ByteArray) (n1 n2 n3 : Int) : T :=
 cond (decide ((IntKind.wrap .i64 (n2 - n1)) > (10 : Int)))
  (T.ret (.tuple #[.int .u32 (0 : Int), .int .i64 (0 : Int)]))
  (cond (decide (n3 > (4294967295 : Int)))
   (T.ret (.tuple #[.int .u32 (0 : Int), .int .i64 (0 : Int)]))
   (T.need (((0 : Int) ≤ n1) ∧ (n1 < (s0.size : Int))) <|
    cond ((sbyte s0 n1) == (48 : Int))
     (cond (decide ((IntKind.wrap .i64 (n2 - n1)) > (1 : Int)))
      (T.ret (.tuple #[.int .u32 (0 : Int), .int .i64 (0 : Int)]))
      (glueT s0 n2 n3))
     (glueT s0 n2 n3)))
theorem cN_eq (c d : UInt8) {n : Int} (hn : cN d = n) : cN c = n ↔ c = d := by
  subst hn
  unfold cN
  constructor
  · intro h
    exact UInt8.toNat_inj.1 (by omega)
  · intro h
    rw [h]
theorem numR_dec {D : List UInt8} (h39 : D.getD 0 0 ≠ 39) (hx : ¬ D.take 2 = [48, 120]) (h : (1 < rowN D digitsL ∧ D.getD 0 0 = 48) ∨ rowN D digitsL = 0 ∨ 4294967296 ≤ valB 10 (D.take (rowN D digitsL))) : numR D = (0, 0) := by
  unfold numR
  have : numL D = (0, 0) := by unfold numL; rw [if_neg hx, if_pos h]
  rw [if_neg h39, this, if_pos (.inl rfl)]
theorem numR_dec' {D : List UInt8} (h39 : D.getD 0 0 ≠ 39) (hx : ¬ D.take 2 = [48, 120]) (h : ¬ ((1 < rowN D digitsL ∧ D.getD 0 0 = 48) ∨ rowN D digitsL = 0 ∨ 4294967296 ≤ valB 10 (D.take (rowN D digitsL)))) :
    numR D = if 0 < rowN (D.drop (rowN D digitsL)) gluedL then (0, 0) else (valB 10 (D.take (rowN D digitsL)), rowN D digitsL) := by
  unfold numR
  have : numL D = (rowN D digitsL, valB 10 (D.take (rowN D digitsL))) := by unfold numL; rw [if_neg hx, if_neg h]
  rw [if_neg h39, this]
  simp only
  by_cases h2 : 0 < rowN (D.drop (rowN D digitsL)) gluedL
  · rw [if_pos (.inr h2), if_pos h2]
  · rw [if_neg h2, if_neg (by rintro (hh | hh); exact h (.inr (.inl hh)); exact h2 hh)]
theorem dec_ok {s : ByteArray} {a j : Nat} {L : Lp} {K : Value → Hp → Prop} {h : Hp} (hs : s.size ≤ 2 ^ 40) (ha : a < s.size) (hd : isDig (s.data.toList.getD a 0) = true) (hx : ¬ (s.data.toList.drop a).take 2 = [48, 120])
    (hj : j = min (rowN (s.data.toList.drop a) digitsL) 12)
    (hk : K (numV (s.data.toList.drop a) a) h) : decTail s a ((a + j : Nat) : Int) (valB 10 ((s.data.toList.drop a).take j) : Nat) L K h := by
  have hsz : s.data.toList.length = s.size := by simp
  have hr := rowN_le (s.data.toList.drop a) digitsL
  rw [List.length_drop] at hr
  have hD0 : (s.data.toList.drop a).getD 0 0 = s.data.toList.getD a 0 := by rw [getD_drop', Nat.add_zero]
  have h39 : (s.data.toList.drop a).getD 0 0 ≠ 39 := fun hh => by rw [hD0] at hh; rw [hh] at hd; revert hd; decide
  have hpos : 0 < rowN (s.data.toList.drop a) digitsL := by
    have := (rowN_step (s.data.toList.drop a) digitsL 0 (by omega) (by rw [List.length_drop]; omega)).2 (by rw [hD0, digits_is]; exact hd)
    exact this
  have hbig := fun h0 => val_big (D := s.data.toList.drop a) (n := rowN (s.data.toList.drop a) digitsL) hpos (by rw [List.length_drop]; omega) (by rw [hD0]; exact hd) h0
  have hN := numR_dec h39 hx
  have hN' := numR_dec' h39 hx
  unfold numV at hk
  unfold decTail
  have hw : IntKind.wrap .i64 (((a + j : Nat) : Int) - (a : Int)) = (j : Int) := by rw [wrap_i64 (by omega) (by omega)]; omega
  rw [hw]
  have hsb : sbyte s (a : Int) = cN ((s.data.toList.drop a).getD 0 0) := by rw [hD0, sbyte_cN, show Int.toNat (a : Int) = a by omega]
  have hlt := val10_lt (l := s.data.toList.drop a) (k := j) (by omega)
  refine cond_mk (fun h1 => ?_) (fun h1 => ?_)
  · have h1 := of_decide_eq_true h1
    rw [hN (by
      by_cases h0 : (s.data.toList.drop a).getD 0 0 = 48
      · exact .inl ⟨by omega, h0⟩
      · refine .inr (.inr ?_)
        refine Nat.le_trans ?_ (hbig h0)
        refine Nat.le_trans (show 4294967296 ≤ 10 ^ 10 by decide) (Nat.pow_le_pow_right (by omega) (by omega)))] at hk
    exact hk
  have h1 := of_decide_eq_false h1
  have hjr : rowN (s.data.toList.drop a) digitsL = j := by omega
  rw [hjr] at hN hN'
  refine cond_mk (fun h2 => ?_) (fun h2 => ?_)
  · have h2 := of_decide_eq_true h2
    rw [hN (.inr (.inr (by omega)))] at hk
    exact hk
  have h2 := of_decide_eq_false h2
  have hglue : (¬ (1 < j ∧ (s.data.toList.drop a).getD 0 0 = 48)) → glueT s ((a + j : Nat) : Int) (valB 10 ((s.data.toList.drop a).take j) : Nat) L K h := by
    intro hh
    refine glue_ok (by omega) (by omega) ?_
    rw [hN' (by rintro (h3 | h3 | h3); exact hh h3; omega; omega), List.drop_drop] at hk
    by_cases h3 : 0 < rowN (s.data.toList.drop (a + j)) gluedL
    · rw [if_pos h3] at hk ⊢
      exact hk
    · rw [if_neg h3] at hk ⊢
      simp only at hk
      rw [if_neg (by omega)] at hk
      exact hk
  refine need_of ⟨by omega, by omega⟩ ?_
  rw [hsb]
  refine cond_mk (fun h3 => ?_) (fun h3 => ?_)
  · have h3 := (cN_eq _ 48 rfl).1 (eq_of_beq h3)
    refine cond_mk (fun h4 => ?_) (fun h4 => ?_)
    · have h4 := of_decide_eq_true h4
      rw [hN (.inl ⟨by omega, h3⟩)] at hk
      exact hk
    · have h4 := of_decide_eq_false h4
      exact hglue (by omega)
  · have h3 : ¬ (s.data.toList.drop a).getD 0 0 = 48 := fun hh => ne_of_beq_false h3 ((cN_eq _ 48 rfl).2 hh)
    exact hglue (fun hh => h3 hh.2)
def decLoop (s0 : ByteArray) (n1 : Int) : T :=
 T.loop [(false, [.int .i64]), (false, [.int .u64])] [.int .i64 n1, .int .u64 (0 : Int)] <| fun (n2 : Int) (n3 : Int) =>
 cond (decide (n2 < (s0.size : Int)))
  (T.need (((0 : Int) ≤ n2) ∧ (n2 < (s0.size : Int))) <|
  T.call Try.prog 38 [.int .u8 (sbyte s0 n2)] false [(false, [.bool])] <| fun (b4 : Bool) =>
  cond b4
   (cond (decide ((IntKind.wrap .i64 (n2 - n1)) < (12 : Int)))
    (T.need (((0 : Int) ≤ n2) ∧ (n2 < (s0.size : Int))) <|
    T.again 0 [.int .i64 (IntKind.wrap .i64 (n2 + (1 : Int))), .int .u64 (IntKind.wrap .u64 ((IntKind.wrap .u64 (n3 * (10 : Int))) + (IntKind.wrap .u64 (IntKind.wrap .u8 ((sbyte s0 n2) - (48 : Int))))))])
    (decTail s0 n1 n2 n3))
   (decTail s0 n1 n2 n3))
  (decTail s0 n1 n2 n3)
theorem decLoop_ok {s : ByteArray} {a : Nat} {K : Value → Hp → Prop} {h : Hp} (hs : s.size ≤ 2 ^ 40) (ha : a < s.size) (hd : isDig (s.data.toList.getD a 0) = true) (hx : ¬ (s.data.toList.drop a).take 2 = [48, 120])
    (hk : K (numV (s.data.toList.drop a) a) h) : decLoop s a [] K h := by
  have hsz : s.data.toList.length = s.size := by simp
  have hr := rowN_le (s.data.toList.drop a) digitsL
  rw [List.length_drop] at hr
  unfold decLoop
  refine loop_of (cs := [(false, [.int .i64]), (false, [.int .u64])]) (fun x n h' => h' = h ∧ ∃ j : Nat, x.1 = ((a + j : Nat) : Int) ∧ x.2.1 = ((valB 10 ((s.data.toList.drop a).take j) : Nat) : Int) ∧ j ≤ 12 ∧ j ≤ rowN (s.data.toList.drop a) digitsL ∧ n = 12 - j)
    ((a : Int), (0 : Int), ()) 12 rfl ⟨rfl, 0, rfl, rfl, by omega, by omega, by omega⟩ ?_
  rintro ⟨n2, n3, ⟨⟩⟩ m h' ⟨rfl, j, hn2, hn3, hj12, hjr, rfl⟩
  simp only at hn2 hn3
  subst hn2 hn3
  dsimp only [flat, unc, unc1, List.nil_append, List.cons_append]
  have hst := rowN_step (s.data.toList.drop a) digitsL j hjr
  rw [getD_drop', digits_is, List.length_drop] at hst
  have hlt := val10_lt hjr
  have hp12 : 10 ^ j ≤ 10 ^ 12 := Nat.pow_le_pow_right (by omega) hj12
  have h12 : (10:Nat) ^ 12 = 1000000000000 := rfl
  refine cond_mk (fun h1 => ?_) (fun h1 => ?_)
  · have h1 := of_decide_eq_true h1
    have hb : sbyte s ((a + j : Nat) : Int) = cN (s.data.toList.getD (a + j) 0) := by rw [sbyte_cN, show Int.toNat ((a + j : Nat) : Int) = a + j by omega]
    refine need_of ⟨by omega, by omega⟩ ?_
    rw [hb]
    have hst := hst (by omega)
    refine call_bool (digit_hc _ _) (cond_mk (fun h2 => ?_) (fun h2 => ?_))
    · have hlt2 := hst.2 h2
      have hw : IntKind.wrap .i64 (((a + j : Nat) : Int) - (a : Int)) = (j : Int) := by rw [wrap_i64 (by omega) (by omega)]; omega
      refine cond_mk (fun h3 => ?_) (fun h3 => ?_)
      · rw [hw] at h3
        have h3 := of_decide_eq_true h3
        refine need_of ⟨by omega, by omega⟩ ?_
        have hsn := valB_snoc 10 (s.data.toList.drop a) j (by rw [List.length_drop]; omega)
        rw [getD_drop'] at hsn
        obtain ⟨hd1, hd2⟩ := dv_dig _ h2
        generalize hv : valB 10 ((s.data.toList.drop a).take j) = v at hlt hsn ⊢
        generalize dv (s.data.toList.getD (a + j) 0) = d at hsn hd1 hd2
        have hw1 : IntKind.wrap .u8 (cN (s.data.toList.getD (a + j) 0) - 48) = (d : Int) := by rw [wrap_u8 (by omega) (by omega)]; omega
        have hw2 : IntKind.wrap .u64 (d : Int) = d := wrap_u64 (by omega) (by omega)
        have hw3 : IntKind.wrap .u64 ((v : Int) * 10) = (v : Int) * 10 := wrap_u64 (by omega) (by omega)
        have hw4 : IntKind.wrap .u64 ((v : Int) * 10 + (d : Int)) = ((valB 10 ((s.data.toList.drop a).take (j + 1)) : Nat) : Int) := by rw [wrap_u64 (by omega) (by omega), hsn]; omega
        have hw5 : IntKind.wrap .i64 (((a + j : Nat) : Int) + 1) = ((a + (j + 1) : Nat) : Int) := by rw [wrap_i64 (by omega) (by omega)]; omega
        rw [hw1, hw2, hw3, hw4, hw5]
        exact again_mk (cs := [(false, [.int .i64]), (false, [.int .u64])]) (((a + (j + 1) : Nat) : Int), ((valB 10 ((s.data.toList.drop a).take (j + 1)) : Nat) : Int), ()) (12 - (j + 1)) rfl (by omega) rfl ⟨rfl, j + 1, rfl, rfl, by omega, by omega, rfl⟩
      · rw [hw] at h3
        have h3 := of_decide_eq_false h3
        exact dec_ok hs ha hd hx (by omega) hk
    · refine dec_ok hs ha hd hx ?_ hk
      have : ¬ j < rowN (s.data.toList.drop a) digitsL := fun hh => by rw [hst.1 hh] at h2; cases h2
      omega
  · have h1 := of_decide_eq_false h1
    exact dec_ok hs ha hd hx (by omega) hk
def hexTail (s0 : ByteArray) (n1 n2 n3 : Int) : T :=
 cond (decide ((IntKind.wrap .i64 (n2 - n1)) < (3 : Int)))
  (T.ret (.tuple #[.int .u32 (0 : Int), .int .i64 (0 : Int)]))
  (cond (decide ((IntKind.wrap .i64 (n2 - n1)) > (10 : Int)))
   (T.ret (.tuple #[.int .u32 (0 : Int), .int .i64 (0 : Int)]))
   (glueT s0 n2 n3))
theorem hex_ok {s : ByteArray} {a j : Nat} {L : Lp} {K : Value → Hp → Prop} {h : Hp} (hs : s.size ≤ 2 ^ 40) (ha : a + 1 < s.size) (hx : (s.data.toList.drop a).take 2 = [48, 120])
    (hj : j = min (rowN (s.data.toList.drop (a + 2)) hexesL) 10)
    (hk : K (numV (s.data.toList.drop a) a) h) : hexTail s a ((a + 2 + j : Nat) : Int) (valB 16 ((s.data.toList.drop (a + 2)).take j) : Nat) L K h := by
  have hsz : s.data.toList.length = s.size := by simp
  have hr := rowN_le (s.data.toList.drop (a + 2)) hexesL
  rw [List.length_drop] at hr
  have h39 : (s.data.toList.drop a).getD 0 0 ≠ 39 := by
    have := congrArg (fun l => l.getD 0 0) hx
    simp only [List.getD_cons_zero] at this
    rw [getD_take (by omega)] at this
    rw [this]; decide
  have hN : numR (s.data.toList.drop a) = if 8 < rowN (s.data.toList.drop (a + 2)) hexesL ∨ rowN (s.data.toList.drop (a + 2)) hexesL = 0 then (0, 0)
      else if 0 < rowN (s.data.toList.drop (a + 2 + rowN (s.data.toList.drop (a + 2)) hexesL)) gluedL then (0, 0) else (valB 16 ((s.data.toList.drop (a + 2)).take (rowN (s.data.toList.drop (a + 2)) hexesL)), 2 + rowN (s.data.toList.drop (a + 2)) hexesL) := by
    unfold numR numL
    rw [if_neg h39, if_pos hx, List.drop_drop]
    by_cases h1 : 8 < rowN (s.data.toList.drop (a + 2)) hexesL ∨ rowN (s.data.toList.drop (a + 2)) hexesL = 0
    · rw [if_pos h1, if_pos h1, if_pos (.inl rfl)]
    · rw [if_neg h1, if_neg h1]
      simp only [List.drop_drop]
      rw [← Nat.add_assoc]
      by_cases h2 : 0 < rowN (s.data.toList.drop (a + 2 + rowN (s.data.toList.drop (a + 2)) hexesL)) gluedL
      · rw [if_pos h2, if_pos (.inr h2)]
      · rw [if_neg h2, if_neg (by rintro (hh | hh); omega; exact h2 hh)]
  unfold numV at hk
  rw [hN] at hk
  unfold hexTail
  have hw : IntKind.wrap .i64 (((a + 2 + j : Nat) : Int) - (a : Int)) = ((2 + j : Nat) : Int) := by rw [wrap_i64 (by omega) (by omega)]; omega
  rw [hw]
  refine cond_mk (fun h1 => ?_) (fun h1 => ?_)
  · have h1 := of_decide_eq_true h1
    rw [if_pos (.inr (by omega))] at hk
    exact hk
  have h1 := of_decide_eq_false h1
  refine cond_mk (fun h2 => ?_) (fun h2 => ?_)
  · have h2 := of_decide_eq_true h2
    rw [if_pos (.inl (by omega))] at hk
    exact hk
  have h2 := of_decide_eq_false h2
  have hjr : rowN (s.data.toList.drop (a + 2)) hexesL = j := by omega
  rw [hjr, if_neg (by omega)] at hk
  have hlt := val16_lt' (l := s.data.toList.drop (a + 2)) (k := j) (by omega)
  have hp : 16 ^ j ≤ 16 ^ 8 := Nat.pow_le_pow_right (by omega) (by omega)
  have h8 : (16:Nat) ^ 8 = 4294967296 := rfl
  refine glue_ok (by omega) (by omega) ?_
  by_cases h3 : 0 < rowN (s.data.toList.drop (a + 2 + j)) gluedL
  · rw [if_pos h3] at hk ⊢
    exact hk
  · rw [if_neg h3] at hk ⊢
    simp only at hk
    rw [if_neg (by omega), ← Nat.add_assoc] at hk
    exact hk
end Go.Sx

set_option linter.unusedVariables false
set_option maxRecDepth 100000
namespace Go.Sx
open Go.Proofs
/-- The tokens from a place on, to the end. -/
inductive Chain (s : ByteArray) : Nat → List Tok → Prop where
  | stop (k : Nat) : k ≤ s.size → lexD (s.data.toList.drop (k + rowN (s.data.toList.drop k) blanksL)) = .stop → Chain s k []
  | tok (k kind n m : Nat) (ts : List Tok) : k ≤ s.size → lexD (s.data.toList.drop (k + rowN (s.data.toList.drop k) blanksL)) = .tok kind n m → Chain s (k + rowN (s.data.toList.drop k) blanksL + n) ts →
      Chain s k (⟨kind, s.extract (k + rowN (s.data.toList.drop k) blanksL) (k + rowN (s.data.toList.drop k) blanksL + n), m, k + rowN (s.data.toList.drop k) blanksL⟩ :: ts)
theorem blank_le {s : ByteArray} {k : Nat} (hk : k ≤ s.size) : k + rowN (s.data.toList.drop k) blanksL ≤ s.size := by
  have h1 := rowN_le (s.data.toList.drop k) blanksL
  rw [List.length_drop] at h1
  have hsz : s.data.toList.length = s.size := by simp
  omega
theorem lexStep_lexD {s : ByteArray} {k : Nat} (hk : k ≤ s.size) : lexStep s k = mkStep s (k + rowN (s.data.toList.drop k) blanksL) (lexD (s.data.toList.drop (k + rowN (s.data.toList.drop k) blanksL))) := by
  unfold lexStep
  exact lexAt_lexD s _ (blank_le hk)
theorem lexD_pos {D : List UInt8} {k n m : Nat} (h : lexD D = .tok k n m) : 0 < n ∧ n ≤ D.length := (lexD_local (E := []) h (.inl rfl)).2
theorem lexD_nil : lexD [] = .stop := rfl
theorem lexF_chain {s : ByteArray} : ∀ (f k : Nat) (acc : List Tok), k ≤ s.size → s.size - k < f →
    (∃ ts, Chain s k ts ∧ lexF s f k acc = (acc ++ ts, 0, 0)) ∨ (∃ a, a < s.size ∧ lexF s f k acc = ([], a, 20))
  | 0, k, acc, hk, hf => by omega
  | f + 1, k, acc, hk, hf => by
    have hst := lexStep_lexD hk
    have ha := blank_le hk
    have hsz : s.data.toList.length = s.size := by simp
    cases hD : lexD (s.data.toList.drop (k + rowN (s.data.toList.drop k) blanksL)) with
    | stop =>
      rw [hD] at hst
      exact .inl ⟨[], .stop k hk hD, by rw [lexF_stop hst, List.append_nil]⟩
    | wrong =>
      rw [hD] at hst
      refine .inr ⟨_, ?_, lexF_wrong hst⟩
      rcases Nat.lt_or_ge (k + rowN (s.data.toList.drop k) blanksL) s.size with h | h
      · exact h
      · rw [List.drop_eq_nil_of_le (by omega), lexD_nil] at hD; cases hD
    | tok kind n m =>
      rw [hD] at hst
      obtain ⟨h1, h2⟩ := lexD_pos hD
      rw [List.length_drop] at h2
      rcases lexF_chain (s := s) f (k + rowN (s.data.toList.drop k) blanksL + n) (acc ++ [⟨kind, s.extract (k + rowN (s.data.toList.drop k) blanksL) (k + rowN (s.data.toList.drop k) blanksL + n), m, k + rowN (s.data.toList.drop k) blanksL⟩]) (by omega) (by omega) with ⟨ts, hc, he⟩ | ⟨a, ha', he⟩
      · refine .inl ⟨_, .tok k kind n m ts hk hD hc, ?_⟩
        rw [lexF_tok hst, he, List.append_assoc, List.singleton_append]
      · exact .inr ⟨a, ha', by rw [lexF_tok hst, he]⟩
theorem chain_lexF {s : ByteArray} {k : Nat} {ts : List Tok} (h : Chain s k ts) : ∀ (f : Nat) (acc : List Tok), s.size - k < f → lexF s f k acc = (acc ++ ts, 0, 0) := by
  induction h with
  | stop k hk hD =>
    intro f acc hf
    obtain ⟨f, rfl⟩ : ∃ f', f = f' + 1 := ⟨f - 1, by omega⟩
    have hst := lexStep_lexD hk
    rw [hD] at hst
    rw [lexF_stop hst, List.append_nil]
  | tok k kind n m ts hk hD hc ih =>
    intro f acc hf
    obtain ⟨f, rfl⟩ : ∃ f', f = f' + 1 := ⟨f - 1, by omega⟩
    have hst := lexStep_lexD hk
    rw [hD] at hst
    obtain ⟨h1, h2⟩ := lexD_pos hD
    have ha := blank_le hk
    have hsz : s.data.toList.length = s.size := by simp
    rw [List.length_drop] at h2
    rw [lexF_tok hst, ih f _ (by omega), List.append_assoc, List.singleton_append]
theorem lexS_cases (s : ByteArray) : (Chain s 0 (lexS s).1 ∧ (lexS s).2 = (0, 0)) ∨ (∃ a, a < s.size ∧ lexS s = ([], a, 20)) := by
  rcases lexF_chain (s := s) (s.size + 1) 0 [] (by omega) (by omega) with ⟨ts, hc, he⟩ | ⟨a, ha, he⟩
  · refine .inl ?_
    unfold lexS
    rw [he]
    exact ⟨hc, rfl⟩
  · exact .inr ⟨a, ha, he⟩
theorem chain_lexS {s : ByteArray} {ts : List Tok} (h : Chain s 0 ts) : lexS s = (ts, 0, 0) := by
  unfold lexS
  rw [chain_lexF h _ _ (by omega)]; rfl
theorem ba_ext {s t : ByteArray} (h : s.data.toList = t.data.toList) : s = t := by
  cases s; cases t
  simp only at h
  congr 1
  exact Array.toList_inj.1 h
theorem rowN_append_lt {set D E : List UInt8} (h : rowN D set < D.length) : rowN (D ++ E) set = rowN D set := by
  unfold rowN at h ⊢
  induction D with
  | nil => simp at h
  | cons d D ih =>
    simp only [List.cons_append, List.takeWhile_cons] at h ⊢
    cases hd : set.contains d with
    | false => rfl
    | true =>
      rw [hd] at h
      simp only [if_true, List.length_cons] at h ⊢
      rw [ih (by omega)]
theorem rowN_append_all {set D E : List UInt8} (h : rowN D set = D.length) : rowN (D ++ E) set = D.length + rowN E set := by
  unfold rowN at h ⊢
  induction D with
  | nil => simp
  | cons d D ih =>
    simp only [List.cons_append, List.takeWhile_cons] at h ⊢
    cases hd : set.contains d with
    | false => rw [hd] at h; simp at h
    | true =>
      rw [hd] at h
      simp only [if_true, List.length_cons] at h ⊢
      rw [ih (by omega)]
      omega
theorem lexD_stop {D : List UInt8} (h : lexD D = .stop) : D = [] ∨ D.getD 0 0 = 59 := by
  unfold lexD at h
  by_cases h1 : D = []
  · exact .inl h1
  rw [if_neg h1] at h
  by_cases h2 : D.getD 0 0 = 59
  · exact .inr h2
  rw [if_neg h2] at h
  repeat' (split at h)
  all_goals cases h
theorem rowN_glued_append {D E : List UInt8} (hE : rowN E gluedL = 0) : rowN (D ++ E) gluedL = 0 ∨ rowN D gluedL ≠ 0 := by
  cases D with
  | nil => exact .inl (by simpa using hE)
  | cons d D =>
    by_cases h : gluedL.contains d = true
    · right
      unfold rowN
      rw [List.takeWhile_cons, h]
      simp
    · left
      refine rowN_zero.2 fun c r he => ?_
      injection he with a1 a2
      rw [← a1]
      simpa using h
/-- A remark behind a text's end hides all. -/
theorem chain_append {s s' : ByteArray} {u : List UInt8} (hs' : s'.data.toList = s.data.toList ++ (32 :: 59 :: u)) {k : Nat} {ts : List Tok} (h : Chain s k ts) : Chain s' k ts := by
  have hsz : s.data.toList.length = s.size := by simp
  have hsz' : s'.size = s.size + (u.length + 2) := by
    have := congrArg List.length hs'
    simp at this; omega
  induction h with
  | stop k hk hD =>
    refine .stop k (by omega) ?_
    have e0 : s'.data.toList.drop k = s.data.toList.drop k ++ (32 :: 59 :: u) := by rw [hs', List.drop_append_of_le_length (by omega)]
    rw [e0]
    have hr := rowN_le (s.data.toList.drop k) blanksL
    rcases Nat.lt_or_ge (rowN (s.data.toList.drop k) blanksL) (s.data.toList.drop k).length with h1 | h1
    · rw [rowN_append_lt h1]
      rw [List.length_drop] at h1
      rw [hs', List.drop_append_of_le_length (by omega)]
      rcases lexD_stop hD with h2 | h2
      · have := List.drop_eq_nil_iff.1 h2; omega
      · cases h3 : s.data.toList.drop (k + rowN (s.data.toList.drop k) blanksL) with
        | nil => have := List.drop_eq_nil_iff.1 h3; omega
        | cons d D =>
          rw [h3] at h2
          simp only [List.getD_cons_zero] at h2
          subst h2
          rfl
    · rw [rowN_append_all (by omega)]
      rw [show rowN ((32 : UInt8) :: 59 :: u) blanksL = 1 from rfl]
      rw [List.length_drop] at h1 ⊢
      rw [hs', show k + (s.data.toList.length - k + 1) = s.data.toList.length + 1 by omega, List.drop_append]
      rw [List.drop_eq_nil_of_le (by omega), show s.data.toList.length + 1 - s.data.toList.length = 1 by omega]
      rfl
  | tok k kind n m ts hk hD hc ih =>
    have hr := rowN_le (s.data.toList.drop k) blanksL
    obtain ⟨h1, h2⟩ := lexD_pos hD
    have hlt : rowN (s.data.toList.drop k) blanksL < (s.data.toList.drop k).length := by
      rw [List.length_drop] at h2 ⊢; omega
    have e1 : rowN (s'.data.toList.drop k) blanksL = rowN (s.data.toList.drop k) blanksL := by
      rw [hs', List.drop_append_of_le_length (by omega), rowN_append_lt hlt]
    rw [List.length_drop] at hlt h2
    have hD' : lexD (s'.data.toList.drop (k + rowN (s'.data.toList.drop k) blanksL)) = .tok kind n m := by
      rw [e1, hs', List.drop_append_of_le_length (by omega)]
      conv => lhs; rw [← List.take_append_drop n (s.data.toList.drop _), List.append_assoc]
      exact (lexD_local hD (rowN_glued_append rfl)).1
    have := Chain.tok (s := s') k kind n m ts (by omega) hD' (by rw [e1]; exact ih)
    rw [e1] at this
    have e2 : s'.extract (k + rowN (s.data.toList.drop k) blanksL) (k + rowN (s.data.toList.drop k) blanksL + n) = s.extract (k + rowN (s.data.toList.drop k) blanksL) (k + rowN (s.data.toList.drop k) blanksL + n) := by
      refine ba_ext ?_
      rw [ext_list, ext_list, hs', List.drop_append_of_le_length (by omega), List.take_append_of_le_length (by rw [List.length_drop]; omega)]
    rw [e2] at this
    exact this
/-- Texts with one blank behind each. -/
def joinL : List Tok → List UInt8
  | [] => []
  | t :: ts => t.text.data.toList ++ 32 :: joinL ts
/-- Alike but for the places. -/
def Alike (t u : Tok) : Prop := t.kind = u.kind ∧ t.text = u.text ∧ t.num = u.num
theorem lexD_blank {D : List UInt8} {k n m : Nat} (h : lexD D = .tok k n m) : rowN D blanksL = 0 := by
  refine rowN_zero.2 fun c r he => ?_
  subst he
  cases hb : blanksL.contains c with
  | false => rfl
  | true =>
    exfalso
    have hall := all_bytes (fun c => !blanksL.contains c || (!decide (c = 59) && !isLet c && !isDig c && !decide (c = 39) && !signsL.contains c)) (fun _ => true) (by decide +kernel) c
    simp only [hb, Bool.not_true, Bool.false_or, Bool.and_eq_true, Bool.not_eq_true', decide_eq_false_iff_not] at hall
    obtain ⟨⟨⟨⟨h1, h2⟩, h3⟩, h4⟩, h5⟩ := hall
    unfold lexD at h
    simp only [List.getD_cons_zero] at h
    rw [if_neg (by simp), if_neg h1, if_neg (by rw [h2]; simp), if_neg (by rw [h3]; simp), if_neg h4, if_neg (by rw [h5]; simp)] at h
    cases h
/-- Tokens with one blank between each two are read again. -/
theorem chain_join {s s' : ByteArray} {k : Nat} {ts : List Tok} (h : Chain s k ts) : ∀ (q : Nat) (B : List UInt8), (B = [] ∨ B = [32]) → q ≤ s'.size → s'.data.toList.drop q = B ++ joinL ts →
    ∃ us, Chain s' q us ∧ us.length = ts.length ∧ ∀ i (h1 : i < us.length) (h2 : i < ts.length), Alike us[i] ts[i] := by
  have hsz' : s'.data.toList.length = s'.size := by simp
  induction h with
  | stop k hk hD =>
    intro q B hB hq hJ
    refine ⟨[], .stop q hq ?_, rfl, fun i h1 _ => by simp at h1⟩
    have e1 : rowN (s'.data.toList.drop q) blanksL = (s'.data.toList.drop q).length := by
      rw [hJ]
      rcases hB with rfl | rfl <;> rfl
    rw [e1, List.length_drop, List.drop_eq_nil_of_le (by omega)]
    rfl
  | tok k kind n m ts hk hD hc ih =>
    intro q B hB hq hJ
    obtain ⟨h1, h2⟩ := lexD_pos hD
    generalize ha : k + rowN (s.data.toList.drop k) blanksL = a at *
    have eX : (s.extract a (a + n)).data.toList = (s.data.toList.drop a).take n := by rw [ext_list, show a + n - a = n by omega]
    have hJ' : s'.data.toList.drop q = B ++ ((s.data.toList.drop a).take n ++ 32 :: joinL ts) := by
      rw [hJ]
      show B ++ ((s.extract a (a + n)).data.toList ++ 32 :: joinL ts) = _
      rw [eX]
    have hloc := (lexD_local (E := 32 :: joinL ts) hD (.inl rfl)).1
    have hbl := lexD_blank hloc
    have e1 : rowN (s'.data.toList.drop q) blanksL = B.length := by
      rw [hJ', rowN_append_all (by rcases hB with rfl | rfl <;> rfl), hbl]; rfl
    have e2 : s'.data.toList.drop (q + B.length) = (s.data.toList.drop a).take n ++ 32 :: joinL ts := by
      rw [← List.drop_drop, hJ', List.drop_left]
    have hXl : ((s.data.toList.drop a).take n).length = n := by rw [List.length_take]; omega
    have e3 : s'.data.toList.drop (q + B.length + n) = [32] ++ joinL ts := by
      rw [← List.drop_drop, e2, List.drop_left' hXl]; rfl
    have hle : q + B.length + n ≤ s'.size := by
      have := congrArg List.length e3
      rw [List.length_drop] at this
      simp at this; omega
    obtain ⟨us, hu, hl, hs⟩ := ih (q + B.length + n) [32] (.inr rfl) hle e3
    have hD' : lexD (s'.data.toList.drop (q + rowN (s'.data.toList.drop q) blanksL)) = .tok kind n m := by rw [e1, e2]; exact hloc
    have := Chain.tok (s := s') q kind n m us hq hD' (by rw [e1]; exact hu)
    rw [e1] at this
    refine ⟨_, this, by simp [hl], ?_⟩
    intro i h3 h4
    cases i with
    | zero =>
      refine ⟨rfl, ba_ext ?_, rfl⟩
      show (s'.extract (q + B.length) (q + B.length + n)).data.toList = (s.extract a (a + n)).data.toList
      rw [eX, ext_list, e2, show q + B.length + n - (q + B.length) = n by omega, List.take_append_of_le_length (by omega), List.take_of_length_le (by omega)]
    | succ i => exact hs i (by simpa using h3) (by simpa using h4)
end Go.Sx

set_option linter.unusedVariables false
set_option maxRecDepth 100000
namespace Go.Sx
open Go.Proofs
abbrev tok2Cs : List Comp := [(false, [.slice 0]), (false, [.int .i64]), (false, [.int .i64]), (false, [.slice 0]), (false, [.int .i64])]
theorem lexF_move {s : ByteArray} {f k k' : Nat} {acc : List Tok} (h : lexStep s k = lexStep s k') : lexF s (f + 1) k acc = lexF s (f + 1) k' acc := by
  show (match lexStep s k with
    | .stop => (acc, 0, 0)
    | .wrong a => ([], a, 20)
    | .tok t k' => lexF s f k' (acc ++ [t])) = (match lexStep s k' with
    | .stop => (acc, 0, 0)
    | .wrong a => ([], a, 20)
    | .tok t k' => lexF s f k' (acc ++ [t]))
  rw [h]
theorem drop_cons {s : ByteArray} {k : Nat} (hk : k < s.size) : s.data.toList.drop k = s.data.toList.getD k 0 :: s.data.toList.drop (k + 1) := by
  have hsz : s.data.toList.length = s.size := by simp
  rw [List.drop_eq_getElem_cons (by omega)]
  congr 1
  rw [List.getD_eq_getElem?_getD, List.getElem?_eq_getElem (by omega)]; rfl
theorem lexStep_blank {s : ByteArray} {k : Nat} (hk : k < s.size) (hb : blanksL.contains (s.data.toList.getD k 0) = true) : lexStep s k = lexStep s (k + 1) := by
  unfold lexStep
  have : rowN (s.data.toList.drop k) blanksL = rowN (s.data.toList.drop (k + 1)) blanksL + 1 := by
    rw [drop_cons hk]
    unfold rowN
    rw [List.takeWhile_cons, hb]
    simp
  rw [this]
  congr 1
  omega
theorem lexStep_none {s : ByteArray} {k : Nat} (hb : k < s.size → blanksL.contains (s.data.toList.getD k 0) = false) : lexStep s k = lexAt s k := by
  have hsz : s.data.toList.length = s.size := by simp
  unfold lexStep
  have : rowN (s.data.toList.drop k) blanksL = 0 := by
    rcases Nat.lt_or_ge k s.size with hk | hk
    · rw [drop_cons hk]
      unfold rowN
      rw [List.takeWhile_cons, hb hk]
      simp
    · rw [List.drop_eq_nil_of_le (by omega)]; rfl
  rw [this, Nat.add_zero]
end Go.Sx

set_option linter.unusedVariables false
set_option maxRecDepth 100000
namespace Go.Sx
open Go.Proofs
theorem chain_len {s : ByteArray} {k : Nat} {ts : List Tok} (h : Chain s k ts) : k + ts.length ≤ s.size := by
  induction h with
  | stop k hk _ => simpa using hk
  | tok k kind n m ts hk hD hc ih =>
    have := (lexD_pos hD).1
    rw [List.length_cons]
    omega
theorem lexS_len (s : ByteArray) : (lexS s).1.length ≤ s.size := by
  rcases lexS_cases s with ⟨hc, _⟩ | ⟨a, ha, he⟩
  · have := chain_len hc; omega
  · rw [he]; simp
def badT : List ByteArray := [⟨#[39, 39, 39]⟩, ⟨#[48, 48, 55]⟩, ⟨#[48, 120]⟩, ⟨#[52, 50, 57, 52, 57, 54, 55, 50, 57, 54]⟩, ⟨#[49, 97]⟩, ⟨#[10]⟩,
  ⟨#[97, 98, 99, 100, 101, 102, 103, 104, 105, 106, 107, 108, 109, 110, 111, 112, 113, 114, 115, 116, 117, 118, 119, 120, 121, 122, 97, 98, 99, 100, 101, 102, 103]⟩]
theorem badT_lex : ∀ x ∈ badT, lexS x = ([], 0, 20) ∧ x.size ≤ 2 ^ 40 := by
  intro x hx
  unfold badT at hx
  simp only [List.mem_cons, List.not_mem_nil, or_false] at hx
  rcases hx with rfl | rfl | rfl | rfl | rfl | rfl | rfl
  all_goals exact ⟨by kernel_rfl, by decide⟩
abbrev numS1 : ByteArray := ⟨#[39, 32, 39, 32, 39, 59, 39, 52, 50, 57, 52, 57, 54, 55, 50, 57, 53]⟩
theorem numS1_lex : lexS numS1 = ([⟨2, ⟨#[39, 32, 39]⟩, 32, 0⟩, ⟨2, ⟨#[39, 59, 39]⟩, 59, 4⟩, ⟨2, ⟨#[52, 50, 57, 52, 57, 54, 55, 50, 57, 53]⟩, 4294967295, 7⟩], 0, 0) := by kernel_rfl
end Go.Sx

set_option linter.unusedVariables false
set_option maxRecDepth 100000
namespace Go.Sx
open Go.Proofs
theorem ba_app (a b : ByteArray) : (a ++ b).data.toList = a.data.toList ++ b.data.toList := by
  rw [ByteArray.data_append, Array.toList_append]
theorem ba_size (a : ByteArray) : a.size = a.data.toList.length := by simp
theorem joinL_snoc : ∀ (l : List Tok) (t : Tok), joinL (l ++ [t]) = joinL l ++ (t.text.data.toList ++ [32])
  | [], t => by simp [joinL]
  | x :: l, t => by simp [joinL, joinL_snoc l t]
end Go.Sx

set_option linter.unusedVariables false
set_option maxRecDepth 100000
namespace Go.Sx
open Go.Proofs
/-- A list that a book keeps, and its copy. -/
structure Ent where
  p : Option Addr
  l : Nat
  c : Nat
  q : Option Addr
  d : Nat
  ts : List Tok
def Ent.one (e : Ent) : List Value := [.slice e.p e.l e.c]
def Ent.two (e : Ent) : List Value := [.slice e.q e.l e.d]
def Ent.blks (e : Ent) : List Nat := blkOf e.p ++ blkOf e.q
theorem blkOf_add (p : Option Addr) (k : Nat) : blkOf (p.map fun a => a.add k) = blkOf p := by
  cases p with
  | none => rfl
  | some a => simp [blkOf, add_block]
theorem chGb {h h1 h2 : Hp} {gb : Nat} {l : List Nat} (a : Ch (gb :: l) h h1) (c : Ch [gb] h1 h2) : Ch (gb :: l) h h2 := a.trans c (fun i hi _ => by simp at hi; simp [hi])
end Go.Sx

set_option linter.unusedVariables false
set_option maxRecDepth 100000
namespace Go.Sx
open Go.Proofs
/-- What lay below a place lies there as it did. -/
def Since (b : Nat) (h h' : Hp) : Prop := h.size ≤ h'.size ∧ ∀ i, i < b → i < h.size → h'[i]? = h[i]?
theorem Since.of {ws : List Nat} {b : Nat} {h h' : Hp} (k : Ch ws h h') (hw : ∀ i, i ∈ ws → i < h.size → b ≤ i) : Since b h h' :=
  ⟨k.size, fun i hi hl => k.same i hl fun hm => by have := hw i hm hl; omega⟩
theorem Since.trans {b : Nat} {h h1 h2 : Hp} (a : Since b h h1) (c : Since b h1 h2) : Since b h h2 :=
  ⟨Nat.le_trans a.1 c.1, fun i hi hl => (c.2 i hi (Nat.lt_of_lt_of_le hl a.1)).trans (a.2 i hi hl)⟩
theorem Since.ext {h h1 h2 : Hp} (a : Ext h h1) (c : Since h.size h1 h2) : Ext h h2 :=
  ⟨Nat.le_trans a.size c.1, fun i hi _ => (c.2 i hi (Nat.lt_of_lt_of_le hi a.size)).trans (a.same i hi (by simp))⟩
/-- The mark of a place. -/
def mkL (k j : Nat) : List Value := [.int .i64 (IntKind.wrap .i64 (-100 - (k : Int))), .string ⟨#[]⟩, .int .u32 0, .int .i64 (IntKind.wrap .i64 (0 - (j : Int)))]
theorem setL_take {cells vs : List Value} {o n : Nat} (hv : vs.length = n) (h : o + n ≤ cells.length) : ((setL cells o vs).drop o).take n = vs := by
  rw [setL_eq _ _ _ (by omega), List.append_assoc]
  rw [List.drop_append_of_le_length (by rw [List.length_take]; omega), List.drop_of_length_le (by rw [List.length_take]; omega), List.nil_append, List.take_append_of_le_length (by omega), List.take_of_length_le (by omega)]
theorem setL_before {cells vs : List Value} {o o' n : Nat} (h : o + vs.length ≤ cells.length) (h' : o' + n ≤ o) : ((setL cells o vs).drop o').take n = (cells.drop o').take n := by
  rw [setL_eq _ _ _ (by omega), List.append_assoc]
  rw [List.drop_append_of_le_length (by rw [List.length_take]; omega), List.take_append_of_le_length (by rw [List.length_drop, List.length_take]; omega)]
  rw [List.drop_take, List.take_take, Nat.min_eq_left (by omega)]
end Go.Sx

set_option linter.unusedVariables false
set_option maxRecDepth 100000
namespace Go.Sx
open Go.Proofs
theorem Since.toExt {h h' : Hp} (s : Since h.size h h') : Ext h h' := ⟨s.1, fun i hi _ => s.2 i hi hi⟩
end Go.Sx

set_option linter.unusedVariables false
set_option maxRecDepth 100000
namespace Go.Sx
open Go.Proofs
/-- Is a token this sign? -/
def isS (t : Tok) (c : UInt8) : Bool := t.kind == 3 && t.text.data.toList == [c]
/-- Arguments, with commas between them: a place, where they are wrong. -/
def argsS (n : Nat) : List Tok → List (List Tok) → List Tok → Except Nat (List (List Tok))
  | [], done, cur => if cur = [] then .error n else .ok (done ++ [cur])
  | t :: ts, done, cur => if (isS t 58 || (isS t 44 && decide (cur = []))) = true then .error t.at_ else if isS t 44 = true then argsS n ts (done ++ [cur]) [] else argsS n ts done (cur ++ [t])
def argsA (n : Nat) (ts : List Tok) : Except Nat (List (List Tok)) := if ts = [] then .ok [] else argsS n ts [] []
structure Ln where
  label : ByteArray
  op : ByteArray
  args : List (List Tok)
def lnNil : Ln := ⟨⟨#[]⟩, ⟨#[]⟩, []⟩
/-- Has a line a label? -/
def labB : List Tok → Bool
  | t :: u :: _ => decide (t.kind = 1) && isS u 58
  | _ => false
def parseT (n : Nat) (lab : ByteArray) : List Tok → Ln × Nat × Nat
  | [] => (⟨lab, ⟨#[]⟩, []⟩, 0, 0)
  | t :: ts => if t.kind ≠ 1 then (lnNil, t.at_, 20) else match argsA n ts with
    | .error a => (lnNil, a, 20)
    | .ok l => (⟨lab, t.text, l⟩, 0, 0)
/-- What a line has. -/
def parseL (n : Nat) (ts : List Tok) : Ln × Nat × Nat :=
  if labB ts = true then parseT n ((ts.head?.map (·.text)).getD ⟨#[]⟩) (ts.drop 2) else parseT n ⟨#[]⟩ ts
def parseS (s : ByteArray) : Ln × Nat × Nat := if (lexS s).2.2 ≠ 0 then (lnNil, (lexS s).2.1, (lexS s).2.2) else parseL s.size (lexS s).1
theorem isS_val {t : Tok} {c : UInt8} : (((t.kind : Int) == 3) && (ByteArray.toList t.text == ByteArray.toList ⟨#[c]⟩)) = isS t c := by
  unfold isS
  rw [ByteArray.toList_eq, ByteArray.toList_eq]
  congr 1
  by_cases h : t.kind = 3
  · rw [h]; rfl
  · have h1 : ((t.kind : Int) == 3) = false := by simp; omega
    have h2 : (t.kind == 3) = false := by simp; omega
    rw [h1, h2]
/-- A list of tokens in a heap. -/
structure In where
  p : Option Addr
  l : Nat
  c : Nat
  ts : List Tok
def In.val (a : In) : List Value := [.slice a.p a.l a.c]
/-- A list of lists of tokens; no two share a block. -/
structure Args (h : Hp) (b : Nat) (te es : TypeId) (p : Option Addr) (c : Nat) (al : List In) : Prop where
  out : SL h b te 1 p al.length c (al.map In.val)
  inn : ∀ a, a ∈ al → SL h b es 4 a.p a.l a.c (a.ts.map enc)
  po : ∀ a, a ∈ al → ∀ i, i ∈ blkOf a.p → i ∉ blkOf p
  pp : al.Pairwise fun a a' => ∀ i, i ∈ blkOf a.p → i ∉ blkOf a'.p
theorem Args.keep {ws : List Nat} {h h' : Hp} {b : Nat} {te es : TypeId} {p : Option Addr} {c : Nat} {al : List In} (A : Args h b te es p c al) (k : Ch ws h h') (h1 : ∀ i, i ∈ blkOf p → i ∉ ws) (h2 : ∀ a, a ∈ al → ∀ i, i ∈ blkOf a.p → i ∉ ws) : Args h' b te es p c al :=
  ⟨A.out.keep' k h1, fun a ha => (A.inn a ha).keep' k (h2 a ha), A.po, A.pp⟩
theorem Args.mono {h : Hp} {b b' : Nat} {te es : TypeId} {p : Option Addr} {c : Nat} {al : List In} (A : Args h b te es p c al) (hb : b' ≤ b) : Args h b' te es p c al :=
  ⟨A.out.mono hb, fun a ha => (A.inn a ha).mono hb, A.po, A.pp⟩
theorem Args.nil (h : Hp) (b : Nat) (te es : TypeId) : Args h b te es none 0 [] := ⟨SL.nil _ _ _ _, by simp, by simp, List.Pairwise.nil⟩
/-- One more list behind the others. -/
theorem Args.snoc {h h' : Hp} {b : Nat} {te es : TypeId} {p p' : Option Addr} {c c' : Nat} {al : List In} (A : Args h b te es p c al) {a : In} (hb : b ≤ h.size) (o : SL h' b te 1 p' (al.length + 1) c' (al.map In.val ++ [a.val])) (k : Ch (blkOf p) h h') (hp : p' = p ∨ ∃ x, p' = some x ∧ h.size ≤ x.block)
    (ha : SL h b es 4 a.p a.l a.c (a.ts.map enc)) (h1 : ∀ i, i ∈ blkOf a.p → i ∉ blkOf p) (h2 : ∀ x, x ∈ al → ∀ i, i ∈ blkOf x.p → i ∉ blkOf a.p) : Args h' b te es p' c' (al ++ [a]) := by
  have hp' : ∀ i, i ∈ blkOf p' → i ∈ blkOf p ∨ h.size ≤ i := by
    intro i hi
    rcases hp with rfl | ⟨x, rfl, hx⟩
    · exact .inl hi
    · simp [blkOf] at hi; right; omega
  refine ⟨by rw [List.length_append, List.map_append]; exact o, fun x hx => ?_, fun x hx i hi hh => ?_, List.pairwise_append.2 ⟨A.pp, by simp, fun x hx y hy i hi => ?_⟩⟩
  · rcases List.mem_append.1 hx with hx | hx
    · exact (A.inn x hx).keep' k fun i hi => A.po x hx i hi
    · have hx : x = a := by simpa using hx
      subst hx
      exact ha.keep' k h1
  · rcases List.mem_append.1 hx with hx | hx
    · rcases hp' i hh with h' | h'
      · exact A.po x hx i hi h'
      · have := ((A.inn x hx).blk hi).2; omega
    · have hx : x = a := by simpa using hx
      subst hx
      rcases hp' i hh with h' | h'
      · exact h1 i hi h'
      · have := (ha.blk hi).2; omega
  · have hy : y = a := by simpa using hy
    subst hy
    exact h2 x hx i hi
/-- The last list grows. -/
theorem Args.last {h h' h'' : Hp} {b : Nat} {te es : TypeId} {p : Option Addr} {c : Nat} {dn : List In} {a a' : In} (A : Args h b te es p c (dn ++ [a])) (ha : SL h' b es 4 a'.p a'.l a'.c (a'.ts.map enc)) (k : Ch (blkOf a.p) h h') (hp : a'.p = a.p ∨ ∃ x, a'.p = some x ∧ h.size ≤ x.block)
    (o : SL h'' b te 1 p (dn ++ [a]).length c (((dn ++ [a]).map In.val).set dn.length a'.val)) (k' : Ch (blkOf p) h' h'') : Args h'' b te es p c (dn ++ [a']) := by
  have hp' : ∀ i, i ∈ blkOf a'.p → i ∈ blkOf a.p ∨ h.size ≤ i := by
    intro i hi
    rcases hp with hp | ⟨x, hp, hx⟩
    · rw [hp] at hi; exact .inl hi
    · rw [hp] at hi; simp [blkOf] at hi; right; omega
  obtain ⟨A1, A2, A3, A4⟩ := A
  have hpp := List.pairwise_append.1 A4
  have hset : ((dn ++ [a]).map In.val).set dn.length a'.val = (dn ++ [a']).map In.val := by
    rw [List.map_append, List.map_append, List.set_append_right _ _ (by simp)]
    simp
  rw [hset] at o
  have pa : ∀ i, i ∈ blkOf a.p → i ∉ blkOf p := A3 a (by simp)
  have pa' : ∀ i, i ∈ blkOf a'.p → i ∉ blkOf p := by
    intro i hi hh
    rcases hp' i hi with h1 | h1
    · exact pa i h1 hh
    · have := (A1.blk hh).2; omega
  refine ⟨by simpa using o, fun x hx => ?_, fun x hx i hi => ?_, List.pairwise_append.2 ⟨hpp.1, by simp, fun x hx y hy i hi hh => ?_⟩⟩
  · rcases List.mem_append.1 hx with hx | hx
    · exact ((A2 x (by simp [hx])).keep' k fun i hi => hpp.2.2 x hx a (by simp) i hi).keep' k' fun i hi => A3 x (by simp [hx]) i hi
    · have hx : x = a' := by simpa using hx
      subst hx
      exact ha.keep' k' pa'
  · rcases List.mem_append.1 hx with hx | hx
    · exact A3 x (by simp [hx]) i hi
    · have hx : x = a' := by simpa using hx
      subst hx
      exact pa' i hi
  · have hy : y = a' := by simpa using hy
    subst hy
    rcases hp' i hh with h1 | h1
    · exact hpp.2.2 x hx a (by simp) i hi h1
    · have := ((A2 x (by simp [hx])).blk hi).2; omega
/-- Tokens that lie in a heap, to be read. -/
structure Vw (h : Hp) (p : Option Addr) (l c : Nat) (us : List Tok) : Prop where
  len : l = us.length
  cap : l ≤ c
  cells : ∀ i, (hi : i < us.length) → ∃ a, p = some a ∧ cellsAt h (a.add (i * 4)) 0 (enc us[i])
theorem Vw.keep {ws : List Nat} {h h' : Hp} {p : Option Addr} {l c : Nat} {us : List Tok} (v : Vw h p l c us) (k : Ch ws h h') (hw : ∀ i, i ∈ blkOf p → i ∉ ws) : Vw h' p l c us :=
  ⟨v.len, v.cap, fun i hi => by
    obtain ⟨a, ha, hc⟩ := v.cells i hi
    exact ⟨a, ha, cellsAt_keep k (by rw [add_block]; exact hw _ (by rw [ha]; simp [blkOf])) _ _ hc⟩⟩
theorem SL.vw {h : Hp} {b : Nat} {e : TypeId} {p : Option Addr} {l c : Nat} {us : List Tok} (s : SL h b e 4 p l c (us.map enc)) : Vw h p l c us := by
  refine ⟨by rw [s.1, List.length_map], ?_, fun i hi => ?_⟩
  · cases p with
    | none =>
      have h1 := s.1
      rw [s.2.2.2, List.length_nil] at h1
      omega
    | some a => obtain ⟨_, _, _, _, _, hh, _⟩ := s.2.2; exact hh.1
  · obtain ⟨a, ha, hc⟩ := s.cells (i := i) (by simpa using hi)
    rw [List.getElem_map] at hc
    exact ⟨a, ha, hc⟩
theorem add_add (a : Addr) (i j : Nat) : (a.add i).add j = a.add (i + j) := by
  unfold Addr.add
  by_cases hi : i = 0 <;> by_cases hj : j = 0 <;> simp [hi, hj] <;> omega
theorem Vw.drop {h : Hp} {p : Option Addr} {l c : Nat} {us : List Tok} (v : Vw h p l c us) {k : Nat} (hk : k ≤ l) : Vw h (if c = k then p else p.map fun a => a.add (k * 4)) (l - k) (c - k) (us.drop k) := by
  have := v.len
  have := v.cap
  refine ⟨by rw [List.length_drop]; omega, by omega, fun i hi => ?_⟩
  rw [List.length_drop] at hi
  rw [if_neg (by omega)]
  obtain ⟨a, rfl, hc⟩ := v.cells (k + i) (by omega)
  refine ⟨_, rfl, ?_⟩
  rw [add_add, ← Nat.add_mul, List.getElem_drop]
  exact hc
theorem blkOf_if (p : Option Addr) (c k n : Nat) : blkOf (if c = k then p else p.map fun a => a.add n) = blkOf p := by
  split
  · rfl
  · exact blkOf_add p n
def argsPost (n : Nat) (ts : List Tok) (h : Hp) (v : Value) (h' : Hp) : Prop :=
  Ext h h' ∧ match argsA n ts with
  | .error a => v = .tuple #[.slice none 0 0, .int .i64 a, .int .i64 20]
  | .ok l => ∃ p c al, v = .tuple #[.slice p al.length c, .int .i64 0, .int .i64 0] ∧ Args h' h.size 23 35 p c al ∧ al.map In.ts = l
abbrev argCs : List Comp := [(false, [.slice 0]), (false, [.int .i64]), (false, [.int .i64]), (false, [.slice 0]), (false, [.int .i64])]
def argI (n : Nat) (us : List Tok) (h : Hp) (x : HVs (flat argCs)) (m : Nat) (h' : Hp) : Prop :=
  ∃ (i : Nat) (dn : List In) (cu : In), x.2.2.2.2.1 = (i : Int) ∧ i ≤ us.length ∧ m = us.length - i ∧ Ext h h' ∧ x.2.2.2.1.2.1 = dn.length + 1 ∧ Args h' h.size 23 35 x.2.2.2.1.1 x.2.2.2.1.2.2 (dn ++ [cu]) ∧
    argsS n us [] [] = argsS n (us.drop i) (dn.map In.ts) cu.ts ∧ dn.length ≤ i ∧ cu.ts.length ≤ i
end Go.Sx

set_option linter.unusedVariables false
set_option linter.unusedSimpArgs false
set_option maxRecDepth 100000
namespace Go.Sx
open Go.Proofs
abbrev PRes := Except Nat (Lin × List Tok)
def negB (b : Bool) (x : Lin) : Lin := if b = true then linT x 4294967295 else x
def linZ : Lin := ⟨[], 0⟩
def facH (o : Option (List Tok → PRes)) (ts : List Tok) : PRes :=
  match ts with
  | [] => .error 20
  | t :: r =>
    if t.kind = 1 then if (regL t.text.data.toList).2.2 = true then .error 20 else .ok (⟨[(t.text, 1)], 0⟩, r)
    else if t.kind = 2 then .ok (⟨[], t.num⟩, r)
    else if isS t 40 = true then match o with
      | none => .error 21
      | some f => match f r with
        | .error e => .error e
        | .ok (x, r') => match r' with
          | [] => .error 20
          | t' :: r'' => if isS t' 41 = true then .ok (x, r'') else .error 20
    else .error 20
/-- A factor behind its signs: 'b', is it to be turned. -/
def facS (o : Option (List Tok → PRes)) (b : Bool) (ts : List Tok) : PRes :=
  match facH o ts with
  | .error e => .error e
  | .ok (x, r) => .ok (negB b x, r)
def facN (o : Option (List Tok → PRes)) : Bool → List Tok → PRes
  | b, [] => facS o b []
  | b, t :: r => if isS t 45 = true then facN o (!b) r else facS o b (t :: r)
def facG (o : Option (List Tok → PRes)) (ts : List Tok) : PRes := facN o false ts
def partL (fac : List Tok → PRes) : Nat → Lin → List Tok → PRes
  | 0, x, r => .ok (x, r)
  | n + 1, x, r => match r with
    | [] => .ok (x, [])
    | t :: r' => if isS t 42 = true then match fac r' with
        | .error e => .error e
        | .ok (y, r'') => if x.terms ≠ [] ∧ y.terms ≠ [] then .error 21 else if y.terms ≠ [] then partL fac n (linT y x.num) r'' else partL fac n (linT x y.num) r''
      else .ok (x, t :: r')
def partG (fac : List Tok → PRes) (ts : List Tok) : PRes :=
  match fac ts with
  | .error e => .error e
  | .ok (x, r) => partL fac r.length x r
def sumL (part : List Tok → PRes) : Nat → Lin → List Tok → PRes
  | 0, x, r => .ok (x, r)
  | n + 1, x, r => match r with
    | [] => .ok (x, [])
    | t :: r' => if isS t 43 = true then match part r' with
        | .error e => .error e
        | .ok (y, r'') => sumL part n (linA x y) r''
      else if isS t 45 = true then match part r' with
        | .error e => .error e
        | .ok (y, r'') => sumL part n (linA x (linT y 4294967295)) r''
      else .ok (x, t :: r')
def sumG (part : List Tok → PRes) (ts : List Tok) : PRes :=
  match part ts with
  | .error e => .error e
  | .ok (x, r) => sumL part r.length x r
def sumD : Nat → List Tok → PRes
  | 0 => sumG (partG (facG none))
  | k + 1 => sumG (partG (facG (some (sumD k))))
def lowD : Nat → Option (List Tok → PRes)
  | 0 => none
  | k + 1 => some (sumD k)
theorem sumD_eq (k : Nat) : sumD k = sumG (partG (facG (lowD k))) := by cases k <;> rfl
/-- An expression, or why it is none. -/
def parseX (ts : List Tok) : Except Nat Lin :=
  match sumD 32 ts with
  | .error e => .error e
  | .ok (x, r) => if r = [] then .ok x else .error 20
/-- What is right of a Lin. -/
structure Good (x : Lin) : Prop where
  nf : Nf x.terms
  legal : ∀ t, t ∈ x.terms → legalL t.1.data.toList = true
  num : x.num < 4294967296
theorem legal_size {s : ByteArray} (h : legalL s.data.toList = true) : s.size ≤ 32 := by
  unfold legalL at h
  simp only [Bool.and_eq_true, decide_eq_true_eq] at h
  have : s.data.toList.length = s.size := by simp
  omega
theorem Good.size {x : Lin} (g : Good x) : ∀ t, t ∈ x.terms → t.1.size ≤ maxLen := fun t ht => by
  have := legal_size (g.legal t ht)
  unfold maxLen; omega
theorem Good.z : Good linZ := ⟨Nf.nil, by simp [linZ], by simp [linZ]⟩
theorem Good.T {x : Lin} (g : Good x) (n : Nat) : Good (linT x n) :=
  ⟨timesN_nf g.nf, fun t ht => by obtain ⟨p, hp, e⟩ := mem_timesN ht; rw [← e]; exact g.legal p hp, Nat.mod_lt _ (by decide)⟩
theorem Good.A {x y : Lin} (g : Good x) (k : Good y) : Good (linA x y) :=
  ⟨addM_nf g.nf k.nf, fun t ht => by
    rcases mem_addM ht with ⟨p, hp, e⟩ | ⟨p, hp, e⟩
    · rw [← e]; exact g.legal p hp
    · rw [← e]; exact k.legal p hp, Nat.mod_lt _ (by decide)⟩
theorem Good.neg {x : Lin} (g : Good x) (b : Bool) : Good (negB b x) := by
  unfold negB
  split
  · exact g.T _
  · exact g
theorem timesN_one {l : Tms} (h : Nf l) : timesN 1 l = l :=
  Nf.uniq (timesN_nf h) h fun s => by rw [cf_timesN, Nat.mul_one]
theorem linT_one {x : Lin} (g : Good x) : linT x 1 = x := by
  unfold linT
  rw [timesN_one g.nf, Nat.mul_one, Nat.mod_eq_of_lt g.num]
/-- A token as the lexer hands it on. -/
structure WfT (t : Tok) : Prop where
  num : t.num < 4294967296
  name : t.kind = 1 → t.num = 0 ∧ legalL t.text.data.toList = !(regL t.text.data.toList).2.2
def Wf (ts : List Tok) : Prop := ∀ t, t ∈ ts → WfT t
theorem Wf.suffix {r ts : List Tok} (w : Wf ts) (h : r <:+ ts) : Wf r := fun t ht => w t (h.subset ht)
theorem Wf.tail {t : Tok} {r : List Tok} (w : Wf (t :: r)) : Wf r := fun u hu => w u (List.mem_cons_of_mem _ hu)
def Fine (ts : List Tok) : PRes → Prop
  | .error e => e = 20 ∨ e = 21
  | .ok (x, r) => Good x ∧ r <:+ ts ∧ r.length < ts.length ∧ x.terms.length + r.length ≤ ts.length
theorem good_named {s : ByteArray} (h : legalL s.data.toList = true) : Good ⟨[(s, 1)], 0⟩ :=
  ⟨⟨by simp, by simp⟩, by simpa using h, by simp⟩
theorem facH_fine {o : Option (List Tok → PRes)} (ho : ∀ f, o = some f → ∀ ts, Wf ts → Fine ts (f ts)) {ts : List Tok} (w : Wf ts) : Fine ts (facH o ts) := by
  unfold facH
  cases ts with
  | nil => exact .inl rfl
  | cons t r =>
    simp only
    split
    · rename_i h1
      split
      · exact .inl rfl
      · rename_i h2
        have h3 := ((w t (List.mem_cons_self ..)).name h1).2
        rw [Bool.not_eq_true] at h2
        rw [h2] at h3
        exact ⟨good_named h3, List.suffix_cons _ _, by simp, by simp; omega⟩
    · split
      · exact ⟨⟨Nf.nil, by simp, (w t (List.mem_cons_self ..)).num⟩, List.suffix_cons _ _, by simp, by simp⟩
      · split
        · cases o with
          | none => exact .inr rfl
          | some f =>
            simp only
            have hf := ho f rfl r w.tail
            revert hf
            cases f r with
            | error e => exact id
            | ok q =>
              obtain ⟨x, r'⟩ := q
              rintro ⟨g, s, l, n⟩
              simp only
              cases r' with
              | nil => exact .inl rfl
              | cons t' r'' =>
                simp only
                split
                · refine ⟨g, ((List.suffix_cons _ _).trans s).trans (List.suffix_cons _ _), ?_, ?_⟩
                  · simp only [List.length_cons] at l ⊢; omega
                  · simp only [List.length_cons] at n ⊢; omega
                · exact .inl rfl
        · exact .inl rfl
theorem negB_length (b : Bool) (x : Lin) : (negB b x).terms.length ≤ x.terms.length := by
  unfold negB
  split
  · exact timesN_length _ _
  · exact Nat.le_refl _
theorem facS_fine {o : Option (List Tok → PRes)} (ho : ∀ f, o = some f → ∀ ts, Wf ts → Fine ts (f ts)) {ts : List Tok} (w : Wf ts) (b : Bool) : Fine ts (facS o b ts) := by
  unfold facS
  have := facH_fine ho w
  revert this
  cases facH o ts with
  | error e => exact id
  | ok q =>
    obtain ⟨x, r⟩ := q
    rintro ⟨g, s, l, n⟩
    have := negB_length b x
    exact ⟨g.neg b, s, l, by omega⟩
theorem Fine.cons {t : Tok} {r : List Tok} {q : PRes} (h : Fine r q) : Fine (t :: r) q := by
  cases q with
  | error e => exact h
  | ok q =>
    obtain ⟨g, s, l, n⟩ := h
    exact ⟨g, s.trans (List.suffix_cons _ _), by simp only [List.length_cons]; omega, by simp only [List.length_cons]; omega⟩
theorem facN_fine {o : Option (List Tok → PRes)} (ho : ∀ f, o = some f → ∀ ts, Wf ts → Fine ts (f ts)) : ∀ {ts : List Tok} (b : Bool), Wf ts → Fine ts (facN o b ts)
  | [], b, w => by unfold facN; exact facS_fine ho w b
  | t :: r, b, w => by
    unfold facN
    split
    · exact (facN_fine ho _ w.tail).cons
    · exact facS_fine ho w b
theorem facG_fine {o : Option (List Tok → PRes)} (ho : ∀ f, o = some f → ∀ ts, Wf ts → Fine ts (f ts)) (ts : List Tok) (w : Wf ts) : Fine ts (facG o ts) := facN_fine ho _ w
/-- What a loop may come to. -/
def FineL (m : Nat) (ts : List Tok) : PRes → Prop
  | .error e => e = 20 ∨ e = 21
  | .ok (x, r) => Good x ∧ r <:+ ts ∧ x.terms.length + r.length ≤ m
theorem partL_fine {fac : List Tok → PRes} (hf : ∀ ts, Wf ts → Fine ts (fac ts)) : ∀ (n : Nat) {x : Lin} {r : List Tok}, Good x → Wf r → FineL (x.terms.length + r.length) r (partL fac n x r)
  | 0, x, r, g, w => ⟨g, List.suffix_refl _, Nat.le_refl _⟩
  | n + 1, x, [], g, w => ⟨g, List.suffix_refl _, Nat.le_refl _⟩
  | n + 1, x, t :: r', g, w => by
    unfold partL
    simp only
    split
    · have h1 := hf r' w.tail
      revert h1
      cases fac r' with
      | error e => exact id
      | ok q =>
        obtain ⟨y, r''⟩ := q
        rintro ⟨k, s, l, n1⟩
        simp only
        have hs := s.trans (List.suffix_cons t _)
        split
        · exact .inr rfl
        · split
          · have h2 := partL_fine hf n (k.T x.num) (w.suffix hs)
            revert h2
            have := timesN_length x.num y.terms
            cases partL fac n (linT y x.num) r'' with
            | error e => exact id
            | ok q =>
              rintro ⟨a, b, c⟩
              refine ⟨a, b.trans hs, ?_⟩
              simp only [linT, List.length_cons] at c ⊢
              omega
          · have h2 := partL_fine hf n (g.T y.num) (w.suffix hs)
            revert h2
            have := timesN_length y.num x.terms
            cases partL fac n (linT x y.num) r'' with
            | error e => exact id
            | ok q =>
              rintro ⟨a, b, c⟩
              refine ⟨a, b.trans hs, ?_⟩
              simp only [linT, List.length_cons] at c ⊢
              omega
    · exact ⟨g, List.suffix_refl _, Nat.le_refl _⟩
theorem partG_fine {fac : List Tok → PRes} (hf : ∀ ts, Wf ts → Fine ts (fac ts)) (ts : List Tok) (w : Wf ts) : Fine ts (partG fac ts) := by
  unfold partG
  have h1 := hf ts w
  revert h1
  cases fac ts with
  | error e => exact id
  | ok q =>
    obtain ⟨x, r⟩ := q
    rintro ⟨g, s, l, n⟩
    have h2 := partL_fine hf r.length g (w.suffix s)
    revert h2
    simp only
    cases partL fac r.length x r with
    | error e => exact id
    | ok q =>
      rintro ⟨a, b, c⟩
      exact ⟨a, b.trans s, by have := b.length_le; omega, by omega⟩
theorem sumL_fine {part : List Tok → PRes} (hf : ∀ ts, Wf ts → Fine ts (part ts)) : ∀ (n : Nat) {x : Lin} {r : List Tok}, Good x → Wf r → FineL (x.terms.length + r.length) r (sumL part n x r)
  | 0, x, r, g, w => ⟨g, List.suffix_refl _, Nat.le_refl _⟩
  | n + 1, x, [], g, w => ⟨g, List.suffix_refl _, Nat.le_refl _⟩
  | n + 1, x, t :: r', g, w => by
    unfold sumL
    simp only
    split
    · have h1 := hf r' w.tail
      revert h1
      cases part r' with
      | error e => exact id
      | ok q =>
        obtain ⟨y, r''⟩ := q
        rintro ⟨k, s, l, n1⟩
        simp only
        have hs := s.trans (List.suffix_cons t _)
        have h2 := sumL_fine hf n (g.A k) (w.suffix hs)
        revert h2
        have := addM_length x.terms y.terms
        cases sumL part n (linA x y) r'' with
        | error e => exact id
        | ok q =>
          rintro ⟨a, b, c⟩
          refine ⟨a, b.trans hs, ?_⟩
          simp only [linA, List.length_cons] at c ⊢
          omega
    · split
      · have h1 := hf r' w.tail
        revert h1
        cases part r' with
        | error e => exact id
        | ok q =>
          obtain ⟨y, r''⟩ := q
          rintro ⟨k, s, l, n1⟩
          simp only
          have hs := s.trans (List.suffix_cons t _)
          have h2 := sumL_fine hf n (g.A (k.T 4294967295)) (w.suffix hs)
          revert h2
          have := addM_length x.terms (timesN 4294967295 y.terms)
          have := timesN_length 4294967295 y.terms
          cases sumL part n (linA x (linT y 4294967295)) r'' with
          | error e => exact id
          | ok q =>
            rintro ⟨a, b, c⟩
            refine ⟨a, b.trans hs, ?_⟩
            simp only [linA, linT, List.length_cons] at c ⊢
            omega
      · exact ⟨g, List.suffix_refl _, Nat.le_refl _⟩
theorem sumG_fine {part : List Tok → PRes} (hf : ∀ ts, Wf ts → Fine ts (part ts)) (ts : List Tok) (w : Wf ts) : Fine ts (sumG part ts) := by
  unfold sumG
  have h1 := hf ts w
  revert h1
  cases part ts with
  | error e => exact id
  | ok q =>
    obtain ⟨x, r⟩ := q
    rintro ⟨g, s, l, n⟩
    have h2 := sumL_fine hf r.length g (w.suffix s)
    revert h2
    simp only
    cases sumL part r.length x r with
    | error e => exact id
    | ok q =>
      rintro ⟨a, b, c⟩
      exact ⟨a, b.trans s, by have := b.length_le; omega, by omega⟩
theorem sumD_fine : ∀ (k : Nat) (ts : List Tok), Wf ts → Fine ts (sumD k ts)
  | 0, ts, w => sumG_fine (partG_fine (facG_fine (by intro f hf; cases hf))) ts w
  | k + 1, ts, w => sumG_fine (partG_fine (facG_fine (by rintro f hf; cases hf; exact sumD_fine k))) ts w
theorem lowD_fine (k : Nat) : ∀ f, lowD k = some f → ∀ ts, Wf ts → Fine ts (f ts) := by
  intro f hf
  cases k with
  | zero => cases hf
  | succ k => cases hf; exact sumD_fine k
end Go.Sx

set_option linter.unusedVariables false
set_option linter.unusedSimpArgs false
set_option maxRecDepth 100000
namespace Go.Sx
open Go.Proofs
abbrev ptr (a : Nat) : Value := .pointer (some ⟨a, 0, none⟩)
def signB (e : Nat) (ts : List Tok) (c : UInt8) : Bool := decide (e = 0) && match ts with
  | [] => false
  | t :: _ => isS t c
theorem tok_cells {h : Hp} {a : Addr} {t : Tok} (hc : cellsAt h (a.add (0 * 4)) 0 (enc t)) : cellsAt h a 0 [.int .i64 (t.kind : Int)] ∧ cellsAt h (a.add 1) 0 [.string t.text] ∧ cellsAt h a 0 (enc t) := by
  rw [show a.add (0 * 4) = a by simp [Addr.add]] at hc
  obtain ⟨h1, h2, h3⟩ := hc
  exact ⟨⟨h1, trivial⟩, ⟨by rw [add_add]; exact h2, trivial⟩, h1, h2, h3⟩
end Go.Sx

set_option linter.unusedVariables false
set_option linter.unusedSimpArgs false
set_option maxRecDepth 100000
namespace Go.Sx
open Go.Proofs
/-- What was read, and where the reader stands behind it. -/
def PostR (n : Nat) (d : Int) (x : Lin) (ts' : List Tok) (d' : Int) (e' : Nat) : PRes → Prop
  | .error e => e' = e ∧ e ≠ 0 ∧ x.terms.length ≤ n
  | .ok (y, r) => e' = 0 ∧ x = y ∧ ts' = r ∧ d' = d
theorem cells_lin {h : Hp} {g : Nat} {p : Option Addr} {l c : Nat} {n : Int} (b : Box h g 36 [.slice p l c, .int .u32 n]) : True := trivial
theorem vwT_len {n m : Nat} (h : n ≤ m) (k : m ≤ 2 ^ 40) : n ≤ 2 ^ 40 := Nat.le_trans h k
def negV (b : Bool) : Nat := if b = true then 4294967295 else 1
theorem negV_wrap (b : Bool) : IntKind.wrap .u32 (0 - ((negV b : Nat) : Int)) = ((negV (!b) : Nat) : Int) := by cases b <;> decide
theorem negV_lin {x : Lin} (g : Good x) (b : Bool) : linTimes x (negV b) = negB b x := by
  rw [linTimes_eq g.nf]
  unfold negV negB
  cases b
  · exact linT_one g
  · rfl
theorem SL.vwT' {h : Hp} {b : Nat} {e : TypeId} {p : Option Addr} {l c : Nat} {us : Tms} (s : SL h b e 2 p l c (us.map encT)) : ∀ i, i ∈ blkOf p → i < h.size := fun i hi => (s.blk hi).2
theorem isS_kind {t : Tok} {c : UInt8} (h : isS t c = true) : t.kind = 3 := by
  unfold isS at h
  simp only [Bool.and_eq_true, beq_iff_eq] at h
  exact h.1
theorem wrap_small {d : Int} (h : -1000 ≤ d) (k : d ≤ 1000) : IntKind.wrap .i64 d = d := wrap_i64 (by omega) (by omega)
end Go.Sx

set_option linter.unusedVariables false
set_option linter.unusedSimpArgs false
set_option maxRecDepth 100000
namespace Go.Sx
open Go.Proofs
theorem partL_stop {fac : List Tok → PRes} {n : Nat} {x : Lin} {ts : List Tok} (h : signB 0 ts 42 = false) : partL fac n x ts = .ok (x, ts) := by
  cases n with
  | zero => rfl
  | succ n =>
    cases ts with
    | nil => rfl
    | cons t r =>
      have h : isS t 42 = false := h
      unfold partL
      simp only
      rw [if_neg (by rw [h]; simp)]
theorem linV_of {p : Option Addr} {l c : Nat} {x y : Lin} (h : x = y) : linV p l c x = linV p l c y := by rw [h]
end Go.Sx

set_option linter.unusedVariables false
set_option linter.unusedSimpArgs false
set_option maxRecDepth 100000
namespace Go.Sx
open Go.Proofs
theorem sumL_stop {part : List Tok → PRes} {n : Nat} {x : Lin} {ts : List Tok} (h : signB 0 ts 43 = false) (k : signB 0 ts 45 = false) : sumL part n x ts = .ok (x, ts) := by
  cases n with
  | zero => rfl
  | succ n =>
    cases ts with
    | nil => rfl
    | cons t r =>
      have h : isS t 43 = false := h
      have k : isS t 45 = false := k
      unfold sumL
      simp only
      rw [if_neg (by rw [h]; simp), if_neg (by rw [k]; simp)]
/-- expr.Parse: what it hands on is new memory. -/
def ParseP (h : Hp) (res : Except Nat Lin) (v : Value) (h' : Hp) : Prop :=
  Ext h h' ∧ match res with
  | .error e => v = .tuple #[.agg #[.slice none 0 0, .int .u32 0], .int .i64 (e : Int)]
  | .ok x => ∃ p l c, v = .tuple #[linV p l c x, .int .i64 0] ∧ SL h' h.size 40 2 p l c (x.terms.map encT) ∧ Good x
end Go.Sx

set_option linter.unusedVariables false
set_option linter.unusedSimpArgs false
set_option maxRecDepth 100000
namespace Go.Sx
open Go.Proofs
theorem encT_cells {h : Hp} {b : Addr} {t : ByteArray × Nat} (hc : cellsAt h b 0 (encT t)) : cellsAt h b 0 [.string t.1] ∧ cellsAt h (b.add 1) 0 [.int .u32 (t.2 : Int)] := by
  obtain ⟨h1, h2, h3⟩ := hc
  exact ⟨⟨h1, trivial⟩, ⟨by rw [add_add]; exact h2, trivial⟩⟩
theorem u32_mul (a n : Nat) : IntKind.wrap .u32 ((a : Int) * (n : Int)) = ((a * n % 4294967296 : Nat) : Int) := by rw [wrap_u32_mod, cast_mod, Int.natCast_mul]
theorem u32_add (a n : Nat) : IntKind.wrap .u32 ((a : Int) + (n : Int)) = (((a + n) % 4294967296 : Nat) : Int) := by rw [wrap_u32_mod, cast_mod, Int.natCast_add]
end Go.Sx

set_option linter.unusedVariables false
set_option linter.unusedSimpArgs false
set_option maxRecDepth 100000
namespace Go.Sx
open Go.Proofs
theorem leB (a b : ByteArray) : (Op.bytesLess (ByteArray.toList a) (ByteArray.toList b) || (ByteArray.toList a == ByteArray.toList b)) = !decide (ltN b a) := by
  rw [ByteArray.toList_eq, ByteArray.toList_eq, Proofs.bytesLess_eq]
  by_cases h : ltN b a
  · rw [decide_eq_true h]
    have h1 : ¬ a.data.toList < b.data.toList := ltN_asymm h
    have h2 : ¬ a.data.toList = b.data.toList := fun e => ltN_ne h (ba_ext e).symm
    have h3 : ¬ a.data = b.data := fun e => h2 (by rw [e])
    simp [h1, h3]
  · rw [decide_eq_false h]
    by_cases h1 : ltN a b
    · have h1 : a.data.toList < b.data.toList := h1
      simp [h1]
    · have := ltN_tri a b h1 h
      subst this
      simp
/-- Terms that are right. -/
def rtR : Option ByteArray → Tms → Bool
  | _, [] => true
  | o, t :: r => legalL t.1.data.toList && decide (t.2 ≠ 0) && (match o with
    | none => true
    | some s => decide (ltN s t.1)) && rtR (some t.1) r
def pvN (l : Tms) (i : Nat) : Option ByteArray := if i = 0 then none else (l[i - 1]?).map (·.1)
theorem rtR_ge {o : Option ByteArray} {l : Tms} (h : rtR o l = true) : (∀ t, t ∈ l → legalL t.1.data.toList = true ∧ t.2 ≠ 0) ∧ (l.Pairwise fun p q => ltN p.1 q.1) ∧ ∀ s, o = some s → ∀ t, t ∈ l → ltN s t.1 := by
  induction l generalizing o with
  | nil => exact ⟨by simp, List.Pairwise.nil, by simp⟩
  | cons t r ih =>
    unfold rtR at h
    simp only [Bool.and_eq_true, decide_eq_true_eq] at h
    obtain ⟨⟨⟨h1, h2⟩, h3⟩, h4⟩ := h
    obtain ⟨i1, i2, i3⟩ := ih h4
    refine ⟨?_, List.pairwise_cons.2 ⟨fun q hq => i3 _ rfl q hq, i2⟩, ?_⟩
    · intro u hu
      rcases List.mem_cons.1 hu with rfl | hu
      · exact ⟨h1, h2⟩
      · exact i1 u hu
    · rintro s rfl u hu
      have h3 : ltN s t.1 := by simpa using h3
      rcases List.mem_cons.1 hu with rfl | hu
      · exact h3
      · exact ltN_trans h3 (i3 _ rfl u hu)
theorem rtR_of {o : Option ByteArray} {l : Tms} (h1 : ∀ t, t ∈ l → legalL t.1.data.toList = true ∧ t.2 ≠ 0) (h2 : l.Pairwise fun p q => ltN p.1 q.1) (h3 : ∀ s, o = some s → ∀ t, t ∈ l → ltN s t.1) : rtR o l = true := by
  induction l generalizing o with
  | nil => rfl
  | cons t r ih =>
    obtain ⟨a, b⟩ := h1 t (List.mem_cons_self ..)
    obtain ⟨c, d⟩ := List.pairwise_cons.1 h2
    unfold rtR
    rw [a, decide_eq_true b, ih (o := some t.1) (fun u hu => h1 u (List.mem_cons_of_mem _ hu)) d (by rintro s ⟨⟩ u hu; exact c u hu)]
    cases o with
    | none => rfl
    | some s =>
      show (true && true && decide (ltN s t.1) && true) = true
      rw [decide_eq_true (h3 s rfl t (List.mem_cons_self ..))]
      rfl
theorem rt_good {x : Lin} (h : rtR none x.terms = true) (hc : ∀ t, t ∈ x.terms → t.2 < 4294967296) (hn : x.num < 4294967296) : Good x :=
  ⟨⟨(rtR_ge h).2.1, fun p hp => ⟨((rtR_ge h).1 p hp).2, hc p hp⟩⟩, fun t ht => ((rtR_ge h).1 t ht).1, hn⟩
theorem good_rt {x : Lin} (h : Good x) : rtR none x.terms = true := rtR_of (fun t ht => ⟨h.legal t ht, (h.nf.2 t ht).1⟩) h.nf.1 (by simp)
theorem right50_hc {h : Hp} {p : Option Addr} {l c : Nat} {x : Lin} (v : VwT h p l x.terms) (hl : x.terms.length ≤ 9223372036854775807) (hs : ∀ t, t ∈ x.terms → t.1.size ≤ maxLen) :
    HC Try.prog 12 #[linV p l c x] h fun w h' => w = .bool (rtR none x.terms) ∧ Ext h h' := by
  refine hcr_of (args := [.agg #[.slice p l c, .int .u32 x.num]]) mixed Try.func12 (by kernel_rfl) (t_spandrelref4_Right_eq p l c x.num) ?_
  unfold t_spandrelref4_Right
  have hll := v.len
  refine newB ?_
  intro h1 b1 e1 z1
  have v := v.keep e1 (by simp)
  refine loop_of (cs := [(false, [.bool]), (false, [.int .i64])]) (fun y w h' => ∃ (i : Nat), y.2.1 = (i : Int) ∧ i ≤ x.terms.length ∧ w = x.terms.length - i ∧ h1 = h' ∧ rtR none x.terms = rtR (pvN x.terms i) (x.terms.drop i)) (false, (0 : Int), ()) x.terms.length rfl
    ⟨0, rfl, by omega, by omega, rfl, rfl⟩ ?_
  rintro ⟨b8, n8, ⟨⟩⟩ w h2 ⟨i, hi, hile, rfl, rfl, hq⟩
  simp only at hi
  subst hi
  dsimp only [flat, unc, unc1, List.nil_append, List.cons_append]
  refine loads_box b1 ((p, l, c), ()) rfl ?_
  dsimp only [flat, unc, unc1, List.nil_append, List.cons_append]
  refine cond_mk (fun g1 => ?_) (fun g1 => ?_)
  · have g1 := of_decide_eq_true g1
    have hilt : i < x.terms.length := by omega
    obtain ⟨a, rfl, hc⟩ := v.cells i hilt
    have hdr : x.terms.drop i = x.terms[i] :: x.terms.drop (i + 1) := List.drop_eq_getElem_cons hilt
    have hpv : pvN x.terms (i + 1) = some x.terms[i].1 := by
      unfold pvN
      rw [if_neg (by omega), Nat.add_sub_cancel, List.getElem?_eq_getElem hilt]
      rfl
    have hsz := hs x.terms[i] (List.getElem_mem hilt)
    rw [hdr] at hq
    generalize x.terms[i] = t at hc hq hpv hsz
    refine loads_box b1 ((some a, l, c), ()) rfl ?_
    dsimp only [flat, unc, unc1, List.nil_append, List.cons_append]
    refine need_of ⟨by omega, by omega⟩ (osome_mk rfl ?_)
    rw [show Int.toNat (i : Int) = i by omega]
    refine loads_of (t.1, ()) (encT_cells hc).1 ?_
    dsimp only [flat, unc, unc1, List.nil_append, List.cons_append]
    refine call_bool (legal2_hc t.1 h1 (by have : maxLen = 9223372036854775807 := rfl; omega)) ?_
    refine ⟨⟨b1.cells _ rfl, trivial⟩, ?_⟩
    refine cond_mk (fun g3 => ?_) (fun g3 => ?_)
    · have g3 : legalL t.1.data.toList = false := by simpa using g3
      refine ⟨?_, e1⟩
      rw [hq]
      unfold rtR
      rw [g3]
      simp
    · have g3 : legalL t.1.data.toList = true := by simpa using g3
      refine loads_box b1 ((some a, l, c), ()) rfl ?_
      dsimp only [flat, unc, unc1, List.nil_append, List.cons_append]
      refine need_of ⟨by omega, by omega⟩ (osome_mk rfl ?_)
      refine loads_of ((t.2 : Int), ()) (encT_cells hc).2 ?_
      dsimp only [flat, unc, unc1, List.nil_append, List.cons_append]
      refine cond_mk (fun g2 => ?_) (fun g2 => ?_)
      · have g2 : t.2 = 0 := by have : (t.2 : Int) = 0 := by simpa using g2
                                omega
        refine ⟨?_, e1⟩
        rw [hq]
        unfold rtR
        rw [decide_eq_false (by omega)]
        simp
      · have g2 : t.2 ≠ 0 := by have : ¬ (t.2 : Int) = 0 := by simpa using g2
                                omega
        have hw : IntKind.wrap .i64 ((i : Int) + 1) = ((i + 1 : Nat) : Int) := by rw [wrap_i64 (by omega) (by omega)]; omega
        have hgo : (match pvN x.terms i with
            | none => true
            | some s => decide (ltN s t.1)) = true → rtR none x.terms = rtR (pvN x.terms (i + 1)) (x.terms.drop (i + 1)) := by
          intro hm
          rw [hq, hpv]
          conv => lhs; unfold rtR
          rw [g3, decide_eq_true g2, hm]
          rfl
        refine cond_mk (fun g4 => ?_) (fun g4 => ?_)
        · have g4 := of_decide_eq_true g4
          have hw1 : IntKind.wrap .i64 ((i : Int) - 1) = ((i - 1 : Nat) : Int) := by rw [wrap_i64 (by omega) (by omega)]; omega
          have hi1 : i - 1 < x.terms.length := by omega
          obtain ⟨a', ha', hc'⟩ := v.cells (i - 1) hi1
          cases ha'
          have hpi : pvN x.terms i = some x.terms[i - 1].1 := by
            unfold pvN
            rw [if_neg (by omega), List.getElem?_eq_getElem hi1]
            rfl
          rw [hpi] at hgo hq
          generalize x.terms[i - 1] = u at hc' hpi hgo hq
          refine loads_box b1 ((some a, l, c), ()) rfl ?_
          dsimp only [flat, unc, unc1, List.nil_append, List.cons_append]
          refine need_of ⟨by omega, by omega⟩ (osome_mk rfl ?_)
          refine loads_of (t.1, ()) (encT_cells hc).1 ?_
          dsimp only [flat, unc, unc1, List.nil_append, List.cons_append]
          refine loads_box b1 ((some a, l, c), ()) rfl ?_
          dsimp only [flat, unc, unc1, List.nil_append, List.cons_append]
          rw [hw1]
          refine need_of ⟨by omega, by omega⟩ (osome_mk rfl ?_)
          rw [show Int.toNat ((i - 1 : Nat) : Int) = i - 1 by omega]
          refine loads_of (u.1, ()) (encT_cells hc').1 ?_
          dsimp only [flat, unc, unc1, List.nil_append, List.cons_append]
          rw [leB]
          refine cond_mk (fun g5 => ?_) (fun g5 => ?_)
          · have g5 : ¬ ltN u.1 t.1 := by simpa using g5
            refine ⟨?_, e1⟩
            rw [hq]
            unfold rtR
            dsimp only
            rw [decide_eq_false g5]
            simp
          · have g5 : ltN u.1 t.1 := by simpa using g5
            exact again_mk (cs := [(false, [.bool]), (false, [.int .i64])]) (b8, ((i + 1 : Nat) : Int), ()) (x.terms.length - (i + 1)) rfl (by omega) (congrArg (fun z => [Value.bool b8, Value.int .i64 z]) hw) ⟨i + 1, rfl, by omega, rfl, rfl, hgo (decide_eq_true g5)⟩
        · have g4 := of_decide_eq_false g4
          have hi0 : i = 0 := by omega
          subst hi0
          exact again_mk (cs := [(false, [.bool]), (false, [.int .i64])]) (b8, ((0 + 1 : Nat) : Int), ()) (x.terms.length - (0 + 1)) rfl (by omega) (congrArg (fun z => [Value.bool b8, Value.int .i64 z]) hw) ⟨0 + 1, rfl, by omega, rfl, rfl, hgo rfl⟩
  · have g1 := of_decide_eq_false g1
    have hi : i = x.terms.length := by omega
    subst hi
    refine ⟨?_, e1⟩
    rw [hq, List.drop_length]
    rfl
end Go.Sx

set_option linter.unusedVariables false
set_option linter.unusedSimpArgs false
set_option maxRecDepth 100000
namespace Go.Sx
open Go.Proofs
theorem trm80 : Try.prog.underlying 40 = some (.struct (flds Try.prog 40)) := by kernel_rfl
theorem cmpTrm (x y : Operand) (a : ByteArray) (b : Int) (a' : ByteArray) (b' : Int) (h : Hp) (K : Value → Hp → Prop) (hk : K (.bool !(a == a' && b == b')) h) :
    semW Try.prog (Sx.cmpS (BinOp.neq) 40 x y (.agg #[.string a, .int .u32 b]) (.agg #[.string a', .int .u32 b'])) h K := by
  refine cmpS_neq trm80 (by kernel_rfl) (by kernel_rfl) (by kernel_rfl) K ?_
  have he : (flds Try.prog 40).all (eqF #[.string a, .int .u32 b] #[.string a', .int .u32 b']) = (a == a' && (b == b' && true)) := by
    rw [← Array.all_toList]
    kernel_rfl
  rw [he, Bool.and_true]
  exact hk
theorem trm_ne (t u : ByteArray × Nat) : (!(t.1 == u.1 && (t.2 : Int) == (u.2 : Int))) = decide (t ≠ u) := by
  obtain ⟨a, b⟩ := t
  obtain ⟨a', b'⟩ := u
  by_cases h1 : a = a'
  · subst h1
    rw [bytes_beq]
    by_cases h2 : b = b'
    · subst h2
      simp
    · have h3 : ¬ ((b : Int) = (b' : Int)) := by omega
      have h4 : ((b : Int) == (b' : Int)) = false := by simpa using h3
      simp [h2, h4]
  · have h3 : (a == a') = false := by
      obtain ⟨d⟩ := a
      obtain ⟨d'⟩ := a'
      show (d == d') = false
      have h4 : ¬ d = d' := fun e => h1 (by rw [e])
      simpa using h4
    simp [h1, h3]
theorem ne_of_drop {α : Type} {l m : List α} {i : Nat} (hi : i < l.length) (hj : i < m.length) (h : l[i] ≠ m[i]) : l ≠ m := by
  rintro rfl
  exact h rfl
theorem drop_eq_step {α : Type} {l m : List α} {i : Nat} (hi : i < l.length) (hj : i < m.length) (h : l[i] = m[i]) : (l.drop i = m.drop i) ↔ (l.drop (i + 1) = m.drop (i + 1)) := by
  rw [List.drop_eq_getElem_cons hi, List.drop_eq_getElem_cons hj, h]
  exact ⟨fun e => (List.cons.inj e).2, fun e => by rw [e]⟩
instance : DecidableEq Tms := inferInstance
theorem equal90_hc {h : Hp} {p q : Option Addr} {l m c d : Nat} {us vs : Tms} (v : VwT h p l us) (w : VwT h q m vs) (hl : us.length ≤ 2 ^ 60) : HCp Try.prog 36 [.slice p l c, .slice q m d] h (.bool (decide (us = vs))) := by
  refine hcp_of mixed Try.func36 (by kernel_rfl) (t_slices_Equal___api_Term_api_Term__eq p l c q m d) ?_
  unfold t_slices_Equal___api_Term_api_Term_
  have h1 := v.len
  have h2 := w.len
  refine cond_mk (fun g1 => ?_) (fun g1 => ?_)
  · have g1 : ¬ (l : Int) = (m : Int) := by simpa using g1
    exact ⟨by rw [decide_eq_false (fun e => by rw [e] at h1; omega)], rfl⟩
  · have g1 : (l : Int) = (m : Int) := by simpa using g1
    refine loop_of (cs := [(false, [.bool]), (false, [.int .i64])]) (fun y n h' => ∃ (i : Nat), y.2.1 = (i : Int) ∧ i ≤ us.length ∧ n = us.length - i ∧ h = h' ∧ (us = vs ↔ us.drop i = vs.drop i)) (false, (0 : Int), ()) us.length rfl
      ⟨0, rfl, by omega, by omega, rfl, Iff.rfl⟩ ?_
    rintro ⟨b8, n8, ⟨⟩⟩ n h2 ⟨i, hi, hile, rfl, rfl, hq⟩
    simp only at hi
    subst hi
    dsimp only [flat, unc, unc1, List.nil_append, List.cons_append]
    refine cond_mk (fun g2 => ?_) (fun g2 => ?_)
    · have g2 := of_decide_eq_true g2
      have hi1 : i < us.length := by omega
      have hi2 : i < vs.length := by omega
      obtain ⟨a, rfl, hc⟩ := v.cells i hi1
      obtain ⟨a', rfl, hc'⟩ := w.cells i hi2
      have hst := drop_eq_step hi1 hi2
      have hno := ne_of_drop hi1 hi2
      generalize us[i] = t at hc hst hno
      generalize vs[i] = u at hc' hst hno
      refine need_of ⟨by omega, by omega⟩ (osome_mk rfl ?_)
      rw [show Int.toNat (i : Int) = i by omega]
      refine loads_of (t.1, (t.2 : Int), ()) hc ?_
      dsimp only [flat, unc, unc1, List.nil_append, List.cons_append]
      refine need_of ⟨by omega, by omega⟩ (osome_mk rfl ?_)
      refine loads_of (u.1, (u.2 : Int), ()) hc' ?_
      dsimp only [flat, unc, unc1, List.nil_append, List.cons_append]
      refine sem_bool (b := decide (t ≠ u)) (fun K' hk => cmpTrm _ _ _ _ _ _ _ _ (by rw [trm_ne]; exact hk)) ?_
      refine cond_mk (fun g3 => ?_) (fun g3 => ?_)
      · exact ⟨by rw [decide_eq_false (hno (of_decide_eq_true g3))], rfl⟩
      · have g3 : t = u := by simpa using g3
        have hw : IntKind.wrap .i64 ((i : Int) + 1) = ((i + 1 : Nat) : Int) := by rw [wrap_i64 (by omega) (by omega)]; omega
        exact again_mk (cs := [(false, [.bool]), (false, [.int .i64])]) (b8, ((i + 1 : Nat) : Int), ()) (us.length - (i + 1)) rfl (by omega) (congrArg (fun z => [Value.bool b8, Value.int .i64 z]) hw) ⟨i + 1, rfl, by omega, rfl, rfl, hq.trans (hst g3)⟩
    · have g2 := of_decide_eq_false g2
      refine ⟨?_, rfl⟩
      rw [decide_eq_true (hq.2 (by rw [List.drop_eq_nil_of_le (by omega), List.drop_eq_nil_of_le (by omega)]))]
/-- Are two Lins one? -/
def linB (x y : Lin) : Bool := decide (x.num = y.num) && decide (x.terms = y.terms)
theorem linB_refl (x : Lin) : linB x x = true := by unfold linB; simp
theorem same64_hc {h : Hp} {p q : Option Addr} {l m c d : Nat} {x y : Lin} (v : VwT h p l x.terms) (w : VwT h q m y.terms) (hl : x.terms.length ≤ 2 ^ 60) :
    HC Try.prog 23 #[linV p l c x, linV q m d y] h fun r h' => r = .bool (linB x y) ∧ Ext h h' := by
  refine hcr_of (args := [.agg #[.slice p l c, .int .u32 x.num], .agg #[.slice q m d, .int .u32 y.num]]) mixed Try.func23 (by kernel_rfl) (t_expr_Same_eq p l c x.num q m d y.num) ?_
  unfold t_expr_Same
  refine newB ?_
  intro h1 b1 e1 z1
  refine newB ?_
  intro h2 b2 e2 z2
  have b1 := b1.keep e2 (by simp)
  have e02 := e1.trans e2
  rw [add_box, add_box]
  refine loads_box b1 ((x.num : Int), ()) rfl ?_
  dsimp only [flat, unc, unc1, List.nil_append, List.cons_append]
  refine loads_box b2 ((y.num : Int), ()) rfl ?_
  dsimp only [flat, unc, unc1, List.nil_append, List.cons_append]
  refine cond_mk (fun g1 => ?_) (fun g1 => ?_)
  · have g1 : x.num = y.num := by have : (x.num : Int) = y.num := by simpa using g1
                                  omega
    refine loads_box b1 ((p, l, c), ()) rfl ?_
    dsimp only [flat, unc, unc1, List.nil_append, List.cons_append]
    refine loads_box b2 ((q, m, d), ()) rfl ?_
    dsimp only [flat, unc, unc1, List.nil_append, List.cons_append]
    refine call_bool (equal90_hc (v.keep e02 (by simp)) (w.keep e02 (by simp)) hl) ?_
    refine ⟨?_, e02⟩
    unfold linB
    rw [decide_eq_true g1]
    rfl
  · have g1 : ¬ x.num = y.num := by have : ¬ (x.num : Int) = y.num := by simpa using g1
                                    omega
    refine ⟨?_, e02⟩
    unfold linB
    rw [decide_eq_false g1]
    rfl
theorem same48_hc {h : Hp} {p q : Option Addr} {l m c d : Nat} {x y : Lin} (v : VwT h p l x.terms) (w : VwT h q m y.terms) (hl : x.terms.length ≤ 2 ^ 60) :
    HC Try.prog 20 #[linV p l c x, linV q m d y] h fun r h' => r = .bool (linB x y) ∧ Ext h h' := by
  refine hcr_of (args := [.agg #[.slice p l c, .int .u32 x.num], .agg #[.slice q m d, .int .u32 y.num]]) mixed Try.func20 (by kernel_rfl) (t_spandrelref4_Same_eq p l c x.num q m d y.num) ?_
  unfold t_spandrelref4_Same
  refine newB ?_
  intro h1 b1 e1 z1
  refine newB ?_
  intro h2 b2 e2 z2
  have b1 := b1.keep e2 (by simp)
  have e02 := e1.trans e2
  have v := v.keep e02 (by simp)
  have w := w.keep e02 (by simp)
  have hv := v.len
  have hw := w.len
  rw [add_box, add_box]
  refine loads_box b1 ((x.num : Int), ()) rfl ?_
  dsimp only [flat, unc, unc1, List.nil_append, List.cons_append]
  refine loads_box b2 ((y.num : Int), ()) rfl ?_
  dsimp only [flat, unc, unc1, List.nil_append, List.cons_append]
  refine cond_mk (fun g1 => ?_) (fun g1 => ?_)
  · have g1 : ¬ x.num = y.num := by have : ¬ (x.num : Int) = y.num := by simpa using g1
                                    omega
    refine ⟨?_, e02⟩
    unfold linB
    rw [decide_eq_false g1]
    rfl
  · have g1 : x.num = y.num := by have : (x.num : Int) = y.num := by simpa using g1
                                  omega
    have hB : linB x y = decide (x.terms = y.terms) := by
      unfold linB
      rw [decide_eq_true g1]
      rfl
    rw [hB]
    refine loads_box b1 ((p, l, c), ()) rfl ?_
    dsimp only [flat, unc, unc1, List.nil_append, List.cons_append]
    refine loads_box b2 ((q, m, d), ()) rfl ?_
    dsimp only [flat, unc, unc1, List.nil_append, List.cons_append]
    refine cond_mk (fun g2 => ?_) (fun g2 => ?_)
    · have g2 : ¬ (l : Int) = (m : Int) := by simpa using g2
      exact ⟨by rw [decide_eq_false (fun e => by rw [e] at hv; omega)], e02⟩
    · have g2 : (l : Int) = (m : Int) := by simpa using g2
      refine loop_of (cs := [(false, [.bool]), (false, [.int .i64])]) (fun z n h' => ∃ (i : Nat), z.2.1 = (i : Int) ∧ i ≤ x.terms.length ∧ n = x.terms.length - i ∧ h2 = h' ∧ (x.terms = y.terms ↔ x.terms.drop i = y.terms.drop i)) (false, (0 : Int), ()) x.terms.length rfl
        ⟨0, rfl, by omega, by omega, rfl, Iff.rfl⟩ ?_
      rintro ⟨b8, n8, ⟨⟩⟩ n h3 ⟨i, hi, hile, rfl, rfl, hq⟩
      simp only at hi
      subst hi
      dsimp only [flat, unc, unc1, List.nil_append, List.cons_append]
      refine loads_box b1 ((p, l, c), ()) rfl ?_
      dsimp only [flat, unc, unc1, List.nil_append, List.cons_append]
      refine cond_mk (fun g2 => ?_) (fun g2 => ?_)
      · have g2 := of_decide_eq_true g2
        have hi1 : i < x.terms.length := by omega
        have hi2 : i < y.terms.length := by omega
        obtain ⟨a, rfl, hc⟩ := v.cells i hi1
        obtain ⟨a', rfl, hc'⟩ := w.cells i hi2
        have hst := drop_eq_step hi1 hi2
        have hno := ne_of_drop hi1 hi2
        generalize x.terms[i] = t at hc hst hno
        generalize y.terms[i] = u at hc' hst hno
        refine loads_box b1 ((some a, l, c), ()) rfl ?_
        dsimp only [flat, unc, unc1, List.nil_append, List.cons_append]
        refine need_of ⟨by omega, by omega⟩ (osome_mk rfl ?_)
        rw [show Int.toNat (i : Int) = i by omega]
        refine loads_of (t.1, (t.2 : Int), ()) hc ?_
        dsimp only [flat, unc, unc1, List.nil_append, List.cons_append]
        refine loads_box b2 ((some a', m, d), ()) rfl ?_
        dsimp only [flat, unc, unc1, List.nil_append, List.cons_append]
        refine need_of ⟨by omega, by omega⟩ (osome_mk rfl ?_)
        refine loads_of (u.1, (u.2 : Int), ()) hc' ?_
        dsimp only [flat, unc, unc1, List.nil_append, List.cons_append]
        refine sem_bool (b := decide (t ≠ u)) (fun K' hk => cmpTrm _ _ _ _ _ _ _ _ (by rw [trm_ne]; exact hk)) ?_
        refine ⟨⟨b2.cells _ rfl, b1.cells _ rfl, trivial⟩, ?_⟩
        refine cond_mk (fun g3 => ?_) (fun g3 => ?_)
        · exact ⟨by rw [decide_eq_false (hno (of_decide_eq_true g3))], e02⟩
        · have g3 : t = u := by simpa using g3
          have hw : IntKind.wrap .i64 ((i : Int) + 1) = ((i + 1 : Nat) : Int) := by rw [wrap_i64 (by omega) (by omega)]; omega
          exact again_mk (cs := [(false, [.bool]), (false, [.int .i64])]) (b8, ((i + 1 : Nat) : Int), ()) (x.terms.length - (i + 1)) rfl (by omega) (congrArg (fun z => [Value.bool b8, Value.int .i64 z]) hw) ⟨i + 1, rfl, by omega, rfl, rfl, hq.trans (hst g3)⟩
      · have g2 := of_decide_eq_false g2
        refine ⟨?_, e02⟩
        rw [decide_eq_true (hq.2 (by rw [List.drop_eq_nil_of_le (by omega), List.drop_eq_nil_of_le (by omega)]))]
/-- A slice literal without elements. -/
theorem lit0_of {P : Program} {L : Lp} {K : Value → Hp → Prop} {h : Hp} {k : Option Addr → Nat → Nat → T} {t e : TypeId} {z : Value} {sz by' : Nat} (ht : P.underlying t = some (.slice e)) (hinf : (P.info? e).map (fun i => (i.zero, i.size, i.bytes)) = some (some z, sz, by'))
    (hk : ∀ h' , SL h' h.size e sz (some ⟨h.size, 0, none⟩) 0 0 [] → Ext h h' → k (some ⟨h.size, 0, none⟩) 0 0 L K h') : T.sem P (Instr.buildSlice t 0 #[]) false [(false, [.slice 0])] k L K h := by
  obtain ⟨i, hi, hz, rfl, rfl⟩ := inf_of hinf
  refine sem_slice ?_
  unfold Instr.buildSlice
  rw [semW_bind', semW_underlying ht]
  simp only
  rw [semW_bind', semW_sizeOf hi]
  simp only [Nat.zero_mul]
  rw [if_neg (by omega)]
  have h0 : ∀ f : Nat → Value, Array.map f (Array.range 0) = #[] := fun f => by simp
  simp only [h0]
  refine ⟨_, _, _, rfl, hk _ ?_ (Ext.push h _)⟩
  exact ⟨rfl, by simp, h.size, [], [], rfl, Nat.le_refl _, ⟨Nat.le_refl _, by omega⟩, by simpa using Box.new h e [], by simp⟩
theorem cellsAt_flat {h : Hp} {a : Addr} : ∀ (us : Tms) (k : Nat), (∀ i, (hi : i < us.length) → cellsAt h (a.add ((k + i) * 2)) 0 (encT us[i])) → cellsAt h a (k * 2) (us.map encT).flatten
  | [], _, _ => trivial
  | t :: us, k, hc => by
    have h0 := hc 0 (by simp)
    obtain ⟨h1, h2, _⟩ := h0
    rw [add_add] at h1 h2
    have ih := cellsAt_flat us (k + 1) (fun i hi => by
      have := hc (i + 1) (by simpa using hi)
      rw [show k + (i + 1) = k + 1 + i by omega] at this
      exact this)
    rw [show (k + 1) * 2 = k * 2 + 1 + 1 by omega] at ih
    exact ⟨h1, by simpa using h2, ih⟩
theorem VwT.flat {h : Hp} {a : Addr} {l : Nat} {us : Tms} (v : VwT h (some a) l us) : cellsAt h a 0 (us.map encT).flatten := by
  have := cellsAt_flat (h := h) (a := a) us 0 (fun i hi => by
    obtain ⟨a', e, hc⟩ := v.cells i hi
    cases e
    rw [Nat.zero_add]
    exact hc)
  simpa using this
theorem encT_plain (us : Tms) : (us.map encT).flatten.all plainV = true := by
  rw [List.all_eq_true]
  intro v hv
  obtain ⟨x, hx, hv⟩ := List.mem_flatten.1 hv
  obtain ⟨t, _, rfl⟩ := List.mem_map.1 hx
  simp only [encT, List.mem_cons, List.not_mem_nil, or_false] at hv
  rcases hv with rfl | rfl <;> rfl
/-- append(l, m...) of terms. -/
theorem appT_of {L : Lp} {K : Value → Hp → Prop} {h : Hp} {k : Option Addr → Nat → Nat → T} {ty : TypeId} {b : Nat} {p : Option Addr} {l c : Nat} {xs : Tms} (s : SL h b 40 2 p l c (xs.map encT)) {q : Option Addr} {m d : Nat} {us : Tms} (v : VwT h q m us) (hq0 : q = none → d = 0)
    (hl : l + m ≤ 2 ^ 40) (hb : b ≤ h.size)
    (hk : ∀ p' c' h', SL h' b 40 2 p' (l + m) c' ((xs ++ us).map encT) → Ch (blkOf p) h h' → (p' = p ∨ ∃ a, p' = some a ∧ h.size ≤ a.block) → k p' (l + m) c' L K h') :
    T.sem Try.prog (Builtin.append_ #[33, 33] ty #[.slice p l c, .slice q m d]) false [(false, [.slice 0])] k L K h := by
  obtain ⟨i, hi, hz, hsz, hby⟩ := inf_of termZ
  refine sem_slice ?_
  cases q with
  | none =>
    have h0 : m = 0 := by
      have := v.len
      cases us with
      | nil => exact this
      | cons t us => obtain ⟨a, ha, _⟩ := v.cells 0 (by simp); cases ha
    have h1 : us = [] := by
      have := v.len
      exact List.length_eq_zero_iff.1 (by omega)
    subst h0 h1
    have hd := hq0 rfl
    subst hd
    have hc0 : l ≤ c := by
      cases p with
      | none =>
        have h2 := s.2.2.2
        have h3 := s.1
        rw [h2] at h3
        simp at h3
        omega
      | some a =>
        obtain ⟨g, pre, rest, rfl, hbg, hlc, _⟩ := s.2.2
        exact hlc.1
    simp [Builtin.append_, semW_bind', semW_underlying und67, semW_sizeOf hi, cellsOf_info hi, Builtin.lenOf, Builtin.firstCells, hc0]
    have hfin : ∃ p' l' c', Value.slice p l c = .slice p' l' c' ∧ k p' l' c' L K h := ⟨p, l, c, rfl, by simpa using hk p c h (by simpa using s) (Ch.refl _ _) (.inl rfl)⟩
    cases p with
    | none => exact hfin
    | some a => exact hfin
  | some a =>
    refine append_of und67 hi hz (by rw [hsz]; rfl) (by rw [hsz]; exact s) (ys := us.map encT) (by rw [List.length_map]; exact v.len) (fun y hy => ?_) v.flat (encT_plain us) (by rw [hby]; omega) (by omega) hb ?_
    · obtain ⟨t, _, rfl⟩ := List.mem_map.1 hy
      rw [hsz]
      rfl
    · intro p' c' h' s' k' hp'
      rw [hsz, ← List.map_append] at s'
      exact ⟨_, _, _, rfl, hk p' c' h' s' k' hp'⟩
end Go.Sx

set_option linter.unusedVariables false
set_option linter.unusedSimpArgs false
set_option maxRecDepth 100000
namespace Go.Sx
open Go.Proofs
theorem copyS_of {P : Program} {h : Hp} {K : Value → Hp → Prop} {t ty e : TypeId} {i : TypeInfo} (ht : P.underlying t = some (.slice e)) (hi : P.info? e = some i) {g l c : Nat} {xs vs : List Value} (b : Box h g e xs) {q : Option Addr} {m d : Nat} (hm : m ≤ l) (hv : vs.length = m * i.size)
    (hp : vs.all plainV = true) (hx : vs.length ≤ xs.length) (hq : q = none → vs = []) (hc : ∀ a, q = some a → cellsAt h a 0 vs) (hk : ∀ h', Box h' g e (setL xs 0 vs) → Ch [g] h h' → h'.size = h.size → K (goInt (m : Int)) h') :
    semW P (Builtin.copy_ #[t, t] ty #[.slice (some ⟨g, 0, none⟩) l c, .slice q m d]) h K := by
  have hmin : Nat.min m l = m := Nat.min_eq_left hm
  obtain ⟨k1, k2, k3, k4⟩ := stores_box (off := 0) vs h 0 xs b hp (by omega)
  cases q with
  | none =>
    have hv0 := hq rfl
    subst hv0
    simp [Builtin.copy_, semW_bind', semW_underlying ht, semW_sizeOf hi, Builtin.lenOf, Builtin.firstCells]
    rw [semW_map]
    refine semW_storeCells _ _ _ _ _ k1 ?_
    have := hk h b (Ch.refl _ _) rfl

    rw [hmin]
    exact this
  | some a =>
    simp [Builtin.copy_, semW_bind', semW_underlying ht, semW_sizeOf hi, Builtin.lenOf, Builtin.firstCells]


    rw [hmin]
    refine semW_loadCells (by rw [cellsOf_info hi]; exact hv) (hc a rfl) _ ?_
    rw [semW_map]
    refine semW_storeCells _ _ _ _ _ k1 ?_
    exact hk _ k2 k3 k4
theorem chunk {α : Type} (sz : Nat) : ∀ (n : Nat) (ys : List α), ys.length = n * sz → ∃ xs : List (List α), xs.length = n ∧ (∀ x, x ∈ xs → x.length = sz) ∧ xs.flatten = ys
  | 0, ys, h => ⟨[], rfl, by simp, by rw [Nat.zero_mul] at h; rw [List.length_eq_zero_iff.1 h]; rfl⟩
  | n + 1, ys, h => by
    rw [Nat.succ_mul] at h
    obtain ⟨xs, h1, h2, h3⟩ := chunk sz n (ys.drop sz) (by rw [List.length_drop]; omega)
    refine ⟨ys.take sz :: xs, by simp [h1], ?_, by rw [List.flatten_cons, h3, List.take_append_drop]⟩
    intro x hx
    rcases List.mem_cons.1 hx with rfl | hx
    · rw [List.length_take]; omega
    · exact h2 x hx
theorem SL.front {h : Hp} {b : Nat} {e : TypeId} {sz : Nat} {a : Addr} {l m c : Nat} {xs ys : List (List Value)} (s : SL h b e sz (some a) (l + m) c (xs ++ ys)) (hl : xs.length = l) : SL h b e sz (some a) l c xs := by
  obtain ⟨g, pre, rest, rfl, hbg, hlc, hbox, hr⟩ := s.2.2
  have hm : ys.length = m := by have := s.1; rw [List.length_append] at this; omega
  refine ⟨hl.symm, fun x hx => s.2.1 x (List.mem_append_left _ hx), g, pre, ys.flatten ++ rest, rfl, hbg, ⟨by omega, hlc.2⟩, ?_, ?_⟩
  · rw [List.flatten_append, List.append_assoc] at hbox
    exact hbox
  · rw [List.length_append, flatten_length ys (fun x hx => s.2.1 x (List.mem_append_right _ hx)), hm, hr, ← Nat.add_mul]
    congr 1
    omega
theorem set_mark {α : Type} {A zs : List α} {mk : α} {i : Nat} (hi : i < zs.length) : (A ++ (List.replicate i mk ++ zs.drop i)).set (A.length + i) mk = A ++ (List.replicate (i + 1) mk ++ zs.drop (i + 1)) := by
  rw [List.set_append_right _ _ (by omega), Nat.add_sub_cancel_left, List.set_append_right _ _ (by simp), List.length_replicate, Nat.sub_self, List.drop_eq_getElem_cons hi, List.set_cons_zero, List.replicate_succ', List.append_assoc]
  rfl
theorem sem_i64 {P : Program} {L : Lp} {K : Value → Hp → Prop} {h : Hp} {s : Sem Value} {k : Int → T} (hs : semW P s h fun v h' => ∃ n, v = goInt n ∧ k n L K h') : T.sem P s false [(false, [.int .i64])] k L K h :=
  semW_mono s _ _ _ (fun v h' ⟨n, hv, hk⟩ => ⟨(n, ()), hv, hk⟩) hs
end Go.Sx

set_option linter.unusedVariables false
set_option linter.unusedSimpArgs false
set_option maxRecDepth 100000
namespace Go.Sx
open Go.Proofs
theorem sameT_hc {h : Hp} {p0 p1 : Option Addr} {l0 c0 l1 c1 : Nat} {ts : Tms} (hlen : ts.length ≤ 2 ^ 48) (s0 : VwT h p0 l0 ts) (s1 : VwT h p1 l1 ts) :
    HCp Try.prog 33 [.slice p0 l0 c0, .slice p1 l1 c1] h (.bool true) := by
  refine hcp_of mixed Try.func33 (by kernel_rfl) (t_spandrelbook_Same_api_Term__eq p0 l0 c0 p1 l1 c1) ?_
  unfold t_spandrelbook_Same_api_Term_
  have e0 := s0.len
  have e1 := s1.len
  refine cond_f (by rw [e0, e1]; simp) ?_
  refine loop_of (cs := [(false, [.bool]), (false, [.int .i64])]) (fun x n h' => h' = h ∧ ∃ k : Nat, x.2.1 = (k : Int) ∧ k ≤ ts.length ∧ n = ts.length - k) (false, (0 : Int), ()) ts.length rfl ⟨rfl, 0, rfl, by omega, by omega⟩ ?_
  rintro ⟨b1, n2, ⟨⟩⟩ m h' ⟨rfl, k, hk, hle, rfl⟩
  simp only at hk
  subst hk
  dsimp only [flat, unc, unc1, List.nil_append, List.cons_append]
  refine cond_mk (fun hb => ?_) (fun hb => ⟨rfl, rfl⟩)
  have hb : (k : Int) < (l0 : Int) := of_decide_eq_true hb
  have hlt : k < ts.length := by omega
  obtain ⟨a, rfl, hc⟩ := s0.cells k hlt
  obtain ⟨a', rfl, hc'⟩ := s1.cells k hlt
  generalize ts[k] = t at hc hc'
  have hkn : Int.toNat (k : Int) = k := by omega
  rw [hkn]
  refine need_of ⟨by omega, by omega⟩ (osome_mk rfl (loads_of (t.1, (t.2 : Int), ()) hc ?_))
  refine need_of ⟨by omega, by omega⟩ (osome_mk rfl (loads_of (t.1, (t.2 : Int), ()) hc' ?_))
  refine sem_bool (b := false) (fun K' hk => cmpTrm _ _ _ _ _ _ _ _ (by rw [bytes_beq]; simpa using hk)) ?_
  refine cond_f rfl ?_
  have hw : IntKind.wrap .i64 ((k : Int) + 1) = (k : Int) + 1 := wrap_i64 (by omega) (by omega)
  exact again_mk (cs := [(false, [.bool]), (false, [.int .i64])]) (b1, (k : Int) + 1, ()) (ts.length - (k + 1)) rfl (by omega) (congrArg (fun z => [Value.bool b1, .int .i64 z]) hw) ⟨rfl, k + 1, (show ((k : Int) + 1) = ((k + 1 : Nat) : Int) from by omega), by omega, rfl⟩
end Go.Sx
