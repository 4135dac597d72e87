/- What the document's number answers. Condition: at most 2^40 bytes; a digit or a quote stands at the place. -/
import Derived.Test.YtpbjlnlekobodaaDoorLexL
set_option linter.unusedVariables false
set_option linter.unusedSimpArgs false
set_option linter.deprecated false
set_option maxRecDepth 100000
namespace Go.Sx
open Go.Proofs
def numV (D : List UInt8) (a : Nat) : Value := .tuple #[.int .u32 (numR D).1, .int .i64 (if (numR D).2 = 0 then (0 : Nat) else a + (numR D).2 : Nat)]
def glueT (s0 : ByteArray) (n2 n3 : Int) : T :=
 cond (decide (n2 < (s0.size : Int)))
  (T.need (((0 : Int) ≤ n2) ∧ (n2 < (s0.size : Int))) <|
  T.call Tryd.prog 68 [.int .u8 (sbyte s0 n2)] false [(false, [.bool])] <| fun (b4 : Bool) =>
  cond b4
   (T.ret (.tuple #[.int .u32 (0 : Int), .int .i64 (0 : Int)]))
   (T.need (((0 : Int) ≤ n2) ∧ (n2 < (s0.size : Int))) <|
   T.call Tryd.prog 69 [.int .u8 (sbyte s0 n2)] false [(false, [.bool])] <| fun (b5 : Bool) =>
   cond b5
    (T.ret (.tuple #[.int .u32 (0 : Int), .int .i64 (0 : Int)]))
    (T.ret (.tuple #[.int .u32 (IntKind.wrap .u32 n3), .int .i64 n2]))))
  (T.ret (.tuple #[.int .u32 (IntKind.wrap .u32 n3), .int .i64 n2]))
theorem rowN_drop_pos {s : ByteArray} {i : Nat} (hi : i < s.size) : 0 < rowN (s.data.toList.drop i) gluedL ↔ (isLet (s.data.toList.getD i 0) || isDig (s.data.toList.getD i 0)) = true := by
  have hsz : s.data.toList.length = s.size := by simp
  rw [← glued_is]
  have := rowN_step (s.data.toList.drop i) gluedL 0 (by omega) (by rw [List.length_drop]; omega)
  rw [getD_drop', Nat.add_zero] at this
  exact this
theorem glue_ok {s : ByteArray} {i n : Nat} {L : Lp} {K : Value → Hp → Prop} {h : Hp} (hi : i ≤ s.size) (hn : n < 4294967296)
    (hk : K (if 0 < rowN (s.data.toList.drop i) gluedL then .tuple #[.int .u32 0, .int .i64 0] else .tuple #[.int .u32 n, .int .i64 i]) h) : glueT s i n L K h := by
  unfold glueT
  have hsz : s.data.toList.length = s.size := by simp
  have hw : IntKind.wrap .u32 (n : Int) = n := wrap_u32 (by omega) (by omega)
  rw [hw]
  refine cond_mk (fun h1 => ?_) (fun h1 => ?_)
  · have h1 := of_decide_eq_true h1
    have hp := rowN_drop_pos (s := s) (i := i) (by omega)
    have hb : sbyte s (i : Int) = cN (s.data.toList.getD i 0) := by rw [sbyte_cN, show Int.toNat (i : Int) = i by omega]
    refine need_of ⟨by omega, by omega⟩ ?_
    rw [hb]
    refine call_bool (letter_hc _ h) (cond_mk (fun h2 => ?_) (fun h2 => ?_))
    · rw [if_pos (hp.2 (by rw [h2]; rfl))] at hk
      exact hk
    · refine need_of ⟨by omega, by omega⟩ (call_bool (digit_hc _ h) (cond_mk (fun h3 => ?_) (fun h3 => ?_)))
      · rw [if_pos (hp.2 (by rw [h3]; simp))] at hk
        exact hk
      · rw [if_neg (fun hh => by have := hp.1 hh; rw [h2, h3] at this; cases this)] at hk
        exact hk
  · have h1 := of_decide_eq_false h1
    rw [if_neg (by rw [List.drop_eq_nil_of_le (by omega)]; simp [rowN])] at hk
    exact hk
def decTail (s0 : ByteArray) (n1 n2 n3 : Int) : T :=
 cond (decide ((IntKind.wrap .i64 (n2 - n1)) > (10 : Int)))
  (T.ret (.tuple #[.int .u32 (0 : Int), .int .i64 (0 : Int)]))
  (cond (decide (n3 > (4294967295 : Int)))
   (T.ret (.tuple #[.int .u32 (0 : Int), .int .i64 (0 : Int)]))
   (T.need (((0 : Int) ≤ n1) ∧ (n1 < (s0.size : Int))) <|
    cond ((sbyte s0 n1) == (48 : Int))
     (cond (decide ((IntKind.wrap .i64 (n2 - n1)) > (1 : Int)))
      (T.ret (.tuple #[.int .u32 (0 : Int), .int .i64 (0 : Int)]))
      (glueT s0 n2 n3))
     (glueT s0 n2 n3)))
theorem cN_eq (c d : UInt8) {n : Int} (hn : cN d = n) : cN c = n ↔ c = d := by
  subst hn
  unfold cN
  constructor
  · intro h
    exact UInt8.toNat_inj.1 (by omega)
  · intro h
    rw [h]
theorem numR_dec {D : List UInt8} (h39 : D.getD 0 0 ≠ 39) (hx : ¬ D.take 2 = [48, 120]) (h : (1 < rowN D digitsL ∧ D.getD 0 0 = 48) ∨ rowN D digitsL = 0 ∨ 4294967296 ≤ valB 10 (D.take (rowN D digitsL))) : numR D = (0, 0) := by
  unfold numR
  have : numL D = (0, 0) := by unfold numL; rw [if_neg hx, if_pos h]
  rw [if_neg h39, this, if_pos (.inl rfl)]
theorem numR_dec' {D : List UInt8} (h39 : D.getD 0 0 ≠ 39) (hx : ¬ D.take 2 = [48, 120]) (h : ¬ ((1 < rowN D digitsL ∧ D.getD 0 0 = 48) ∨ rowN D digitsL = 0 ∨ 4294967296 ≤ valB 10 (D.take (rowN D digitsL)))) :
    numR D = if 0 < rowN (D.drop (rowN D digitsL)) gluedL then (0, 0) else (valB 10 (D.take (rowN D digitsL)), rowN D digitsL) := by
  unfold numR
  have : numL D = (rowN D digitsL, valB 10 (D.take (rowN D digitsL))) := by unfold numL; rw [if_neg hx, if_neg h]
  rw [if_neg h39, this]
  simp only
  by_cases h2 : 0 < rowN (D.drop (rowN D digitsL)) gluedL
  · rw [if_pos (.inr h2), if_pos h2]
  · rw [if_neg h2, if_neg (by rintro (hh | hh); exact h (.inr (.inl hh)); exact h2 hh)]
theorem dec_ok {s : ByteArray} {a j : Nat} {L : Lp} {K : Value → Hp → Prop} {h : Hp} (hs : s.size ≤ 2 ^ 40) (ha : a < s.size) (hd : isDig (s.data.toList.getD a 0) = true) (hx : ¬ (s.data.toList.drop a).take 2 = [48, 120])
    (hj : j = min (rowN (s.data.toList.drop a) digitsL) 12)
    (hk : K (numV (s.data.toList.drop a) a) h) : decTail s a ((a + j : Nat) : Int) (valB 10 ((s.data.toList.drop a).take j) : Nat) L K h := by
  have hsz : s.data.toList.length = s.size := by simp
  have hr := rowN_le (s.data.toList.drop a) digitsL
  rw [List.length_drop] at hr
  have hD0 : (s.data.toList.drop a).getD 0 0 = s.data.toList.getD a 0 := by rw [getD_drop', Nat.add_zero]
  have h39 : (s.data.toList.drop a).getD 0 0 ≠ 39 := fun hh => by rw [hD0] at hh; rw [hh] at hd; revert hd; decide
  have hpos : 0 < rowN (s.data.toList.drop a) digitsL := by
    have := (rowN_step (s.data.toList.drop a) digitsL 0 (by omega) (by rw [List.length_drop]; omega)).2 (by rw [hD0, digits_is]; exact hd)
    exact this
  have hbig := fun h0 => val_big (D := s.data.toList.drop a) (n := rowN (s.data.toList.drop a) digitsL) hpos (by rw [List.length_drop]; omega) (by rw [hD0]; exact hd) h0
  have hN := numR_dec h39 hx
  have hN' := numR_dec' h39 hx
  unfold numV at hk
  unfold decTail
  have hw : IntKind.wrap .i64 (((a + j : Nat) : Int) - (a : Int)) = (j : Int) := by rw [wrap_i64 (by omega) (by omega)]; omega
  rw [hw]
  have hsb : sbyte s (a : Int) = cN ((s.data.toList.drop a).getD 0 0) := by rw [hD0, sbyte_cN, show Int.toNat (a : Int) = a by omega]
  have hlt := val10_lt (l := s.data.toList.drop a) (k := j) (by omega)
  refine cond_mk (fun h1 => ?_) (fun h1 => ?_)
  · have h1 := of_decide_eq_true h1
    rw [hN (by
      by_cases h0 : (s.data.toList.drop a).getD 0 0 = 48
      · exact .inl ⟨by omega, h0⟩
      · refine .inr (.inr ?_)
        refine Nat.le_trans ?_ (hbig h0)
        refine Nat.le_trans (show 4294967296 ≤ 10 ^ 10 by decide) (Nat.pow_le_pow_right (by omega) (by omega)))] at hk
    exact hk
  have h1 := of_decide_eq_false h1
  have hjr : rowN (s.data.toList.drop a) digitsL = j := by omega
  rw [hjr] at hN hN'
  refine cond_mk (fun h2 => ?_) (fun h2 => ?_)
  · have h2 := of_decide_eq_true h2
    rw [hN (.inr (.inr (by omega)))] at hk
    exact hk
  have h2 := of_decide_eq_false h2
  have hglue : (¬ (1 < j ∧ (s.data.toList.drop a).getD 0 0 = 48)) → glueT s ((a + j : Nat) : Int) (valB 10 ((s.data.toList.drop a).take j) : Nat) L K h := by
    intro hh
    refine glue_ok (by omega) (by omega) ?_
    rw [hN' (by rintro (h3 | h3 | h3); exact hh h3; omega; omega), List.drop_drop] at hk
    by_cases h3 : 0 < rowN (s.data.toList.drop (a + j)) gluedL
    · rw [if_pos h3] at hk ⊢
      exact hk
    · rw [if_neg h3] at hk ⊢
      simp only at hk
      rw [if_neg (by omega)] at hk
      exact hk
  refine need_of ⟨by omega, by omega⟩ ?_
  rw [hsb]
  refine cond_mk (fun h3 => ?_) (fun h3 => ?_)
  · have h3 := (cN_eq _ 48 rfl).1 (eq_of_beq h3)
    refine cond_mk (fun h4 => ?_) (fun h4 => ?_)
    · have h4 := of_decide_eq_true h4
      rw [hN (.inl ⟨by omega, h3⟩)] at hk
      exact hk
    · have h4 := of_decide_eq_false h4
      exact hglue (by omega)
  · have h3 : ¬ (s.data.toList.drop a).getD 0 0 = 48 := fun hh => ne_of_beq_false h3 ((cN_eq _ 48 rfl).2 hh)
    exact hglue (fun hh => h3 hh.2)
def decLoop (s0 : ByteArray) (n1 : Int) : T :=
 T.loop [(false, [.int .i64]), (false, [.int .u64])] [.int .i64 n1, .int .u64 (0 : Int)] <| fun (n2 : Int) (n3 : Int) =>
 cond (decide (n2 < (s0.size : Int)))
  (T.need (((0 : Int) ≤ n2) ∧ (n2 < (s0.size : Int))) <|
  T.call Tryd.prog 69 [.int .u8 (sbyte s0 n2)] false [(false, [.bool])] <| fun (b4 : Bool) =>
  cond b4
   (cond (decide ((IntKind.wrap .i64 (n2 - n1)) < (12 : Int)))
    (T.need (((0 : Int) ≤ n2) ∧ (n2 < (s0.size : Int))) <|
    T.again 0 [.int .i64 (IntKind.wrap .i64 (n2 + (1 : Int))), .int .u64 (IntKind.wrap .u64 ((IntKind.wrap .u64 (n3 * (10 : Int))) + (IntKind.wrap .u64 (IntKind.wrap .u8 ((sbyte s0 n2) - (48 : Int))))))])
    (decTail s0 n1 n2 n3))
   (decTail s0 n1 n2 n3))
  (decTail s0 n1 n2 n3)
theorem decLoop_ok {s : ByteArray} {a : Nat} {K : Value → Hp → Prop} {h : Hp} (hs : s.size ≤ 2 ^ 40) (ha : a < s.size) (hd : isDig (s.data.toList.getD a 0) = true) (hx : ¬ (s.data.toList.drop a).take 2 = [48, 120])
    (hk : K (numV (s.data.toList.drop a) a) h) : decLoop s a [] K h := by
  have hsz : s.data.toList.length = s.size := by simp
  have hr := rowN_le (s.data.toList.drop a) digitsL
  rw [List.length_drop] at hr
  unfold decLoop
  refine loop_of (cs := [(false, [.int .i64]), (false, [.int .u64])]) (fun x n h' => h' = h ∧ ∃ j : Nat, x.1 = ((a + j : Nat) : Int) ∧ x.2.1 = ((valB 10 ((s.data.toList.drop a).take j) : Nat) : Int) ∧ j ≤ 12 ∧ j ≤ rowN (s.data.toList.drop a) digitsL ∧ n = 12 - j)
    ((a : Int), (0 : Int), ()) 12 rfl ⟨rfl, 0, rfl, rfl, by omega, by omega, by omega⟩ ?_
  rintro ⟨n2, n3, ⟨⟩⟩ m h' ⟨rfl, j, hn2, hn3, hj12, hjr, rfl⟩
  simp only at hn2 hn3
  subst hn2 hn3
  dsimp only [flat, unc, unc1, List.nil_append, List.cons_append]
  have hst := rowN_step (s.data.toList.drop a) digitsL j hjr
  rw [getD_drop', digits_is, List.length_drop] at hst
  have hlt := val10_lt hjr
  have hp12 : 10 ^ j ≤ 10 ^ 12 := Nat.pow_le_pow_right (by omega) hj12
  have h12 : (10:Nat) ^ 12 = 1000000000000 := rfl
  refine cond_mk (fun h1 => ?_) (fun h1 => ?_)
  · have h1 := of_decide_eq_true h1
    have hb : sbyte s ((a + j : Nat) : Int) = cN (s.data.toList.getD (a + j) 0) := by rw [sbyte_cN, show Int.toNat ((a + j : Nat) : Int) = a + j by omega]
    refine need_of ⟨by omega, by omega⟩ ?_
    rw [hb]
    have hst := hst (by omega)
    refine call_bool (digit_hc _ _) (cond_mk (fun h2 => ?_) (fun h2 => ?_))
    · have hlt2 := hst.2 h2
      have hw : IntKind.wrap .i64 (((a + j : Nat) : Int) - (a : Int)) = (j : Int) := by rw [wrap_i64 (by omega) (by omega)]; omega
      refine cond_mk (fun h3 => ?_) (fun h3 => ?_)
      · rw [hw] at h3
        have h3 := of_decide_eq_true h3
        refine need_of ⟨by omega, by omega⟩ ?_
        have hsn := valB_snoc 10 (s.data.toList.drop a) j (by rw [List.length_drop]; omega)
        rw [getD_drop'] at hsn
        obtain ⟨hd1, hd2⟩ := dv_dig _ h2
        generalize hv : valB 10 ((s.data.toList.drop a).take j) = v at hlt hsn ⊢
        generalize dv (s.data.toList.getD (a + j) 0) = d at hsn hd1 hd2
        have hw1 : IntKind.wrap .u8 (cN (s.data.toList.getD (a + j) 0) - 48) = (d : Int) := by rw [wrap_u8 (by omega) (by omega)]; omega
        have hw2 : IntKind.wrap .u64 (d : Int) = d := wrap_u64 (by omega) (by omega)
        have hw3 : IntKind.wrap .u64 ((v : Int) * 10) = (v : Int) * 10 := wrap_u64 (by omega) (by omega)
        have hw4 : IntKind.wrap .u64 ((v : Int) * 10 + (d : Int)) = ((valB 10 ((s.data.toList.drop a).take (j + 1)) : Nat) : Int) := by rw [wrap_u64 (by omega) (by omega), hsn]; omega
        have hw5 : IntKind.wrap .i64 (((a + j : Nat) : Int) + 1) = ((a + (j + 1) : Nat) : Int) := by rw [wrap_i64 (by omega) (by omega)]; omega
        rw [hw1, hw2, hw3, hw4, hw5]
        exact again_mk (cs := [(false, [.int .i64]), (false, [.int .u64])]) (((a + (j + 1) : Nat) : Int), ((valB 10 ((s.data.toList.drop a).take (j + 1)) : Nat) : Int), ()) (12 - (j + 1)) rfl (by omega) rfl ⟨rfl, j + 1, rfl, rfl, by omega, by omega, rfl⟩
      · rw [hw] at h3
        have h3 := of_decide_eq_false h3
        exact dec_ok hs ha hd hx (by omega) hk
    · refine dec_ok hs ha hd hx ?_ hk
      have : ¬ j < rowN (s.data.toList.drop a) digitsL := fun hh => by rw [hst.1 hh] at h2; cases h2
      omega
  · have h1 := of_decide_eq_false h1
    exact dec_ok hs ha hd hx (by omega) hk
def hexTail (s0 : ByteArray) (n1 n2 n3 : Int) : T :=
 cond (decide ((IntKind.wrap .i64 (n2 - n1)) < (3 : Int)))
  (T.ret (.tuple #[.int .u32 (0 : Int), .int .i64 (0 : Int)]))
  (cond (decide ((IntKind.wrap .i64 (n2 - n1)) > (10 : Int)))
   (T.ret (.tuple #[.int .u32 (0 : Int), .int .i64 (0 : Int)]))
   (glueT s0 n2 n3))
theorem hex_ok {s : ByteArray} {a j : Nat} {L : Lp} {K : Value → Hp → Prop} {h : Hp} (hs : s.size ≤ 2 ^ 40) (ha : a + 1 < s.size) (hx : (s.data.toList.drop a).take 2 = [48, 120])
    (hj : j = min (rowN (s.data.toList.drop (a + 2)) hexesL) 10)
    (hk : K (numV (s.data.toList.drop a) a) h) : hexTail s a ((a + 2 + j : Nat) : Int) (valB 16 ((s.data.toList.drop (a + 2)).take j) : Nat) L K h := by
  have hsz : s.data.toList.length = s.size := by simp
  have hr := rowN_le (s.data.toList.drop (a + 2)) hexesL
  rw [List.length_drop] at hr
  have h39 : (s.data.toList.drop a).getD 0 0 ≠ 39 := by
    have := congrArg (fun l => l.getD 0 0) hx
    simp only [List.getD_cons_zero] at this
    rw [getD_take (by omega)] at this
    rw [this]; decide
  have hN : numR (s.data.toList.drop a) = if 8 < rowN (s.data.toList.drop (a + 2)) hexesL ∨ rowN (s.data.toList.drop (a + 2)) hexesL = 0 then (0, 0)
      else if 0 < rowN (s.data.toList.drop (a + 2 + rowN (s.data.toList.drop (a + 2)) hexesL)) gluedL then (0, 0) else (valB 16 ((s.data.toList.drop (a + 2)).take (rowN (s.data.toList.drop (a + 2)) hexesL)), 2 + rowN (s.data.toList.drop (a + 2)) hexesL) := by
    unfold numR numL
    rw [if_neg h39, if_pos hx, List.drop_drop]
    by_cases h1 : 8 < rowN (s.data.toList.drop (a + 2)) hexesL ∨ rowN (s.data.toList.drop (a + 2)) hexesL = 0
    · rw [if_pos h1, if_pos h1, if_pos (.inl rfl)]
    · rw [if_neg h1, if_neg h1]
      simp only [List.drop_drop]
      rw [← Nat.add_assoc]
      by_cases h2 : 0 < rowN (s.data.toList.drop (a + 2 + rowN (s.data.toList.drop (a + 2)) hexesL)) gluedL
      · rw [if_pos h2, if_pos (.inr h2)]
      · rw [if_neg h2, if_neg (by rintro (hh | hh); omega; exact h2 hh)]
  unfold numV at hk
  rw [hN] at hk
  unfold hexTail
  have hw : IntKind.wrap .i64 (((a + 2 + j : Nat) : Int) - (a : Int)) = ((2 + j : Nat) : Int) := by rw [wrap_i64 (by omega) (by omega)]; omega
  rw [hw]
  refine cond_mk (fun h1 => ?_) (fun h1 => ?_)
  · have h1 := of_decide_eq_true h1
    rw [if_pos (.inr (by omega))] at hk
    exact hk
  have h1 := of_decide_eq_false h1
  refine cond_mk (fun h2 => ?_) (fun h2 => ?_)
  · have h2 := of_decide_eq_true h2
    rw [if_pos (.inl (by omega))] at hk
    exact hk
  have h2 := of_decide_eq_false h2
  have hjr : rowN (s.data.toList.drop (a + 2)) hexesL = j := by omega
  rw [hjr, if_neg (by omega)] at hk
  have hlt := val16_lt' (l := s.data.toList.drop (a + 2)) (k := j) (by omega)
  have hp : 16 ^ j ≤ 16 ^ 8 := Nat.pow_le_pow_right (by omega) (by omega)
  have h8 : (16:Nat) ^ 8 = 4294967296 := rfl
  refine glue_ok (by omega) (by omega) ?_
  by_cases h3 : 0 < rowN (s.data.toList.drop (a + 2 + j)) gluedL
  · rw [if_pos h3] at hk ⊢
    exact hk
  · rw [if_neg h3] at hk ⊢
    simp only at hk
    rw [if_neg (by omega), ← Nat.add_assoc] at hk
    exact hk
def hexLoop (s0 : ByteArray) (n1 : Int) : T :=
 T.loop [(false, [.int .i64]), (false, [.int .u64])] [.int .i64 (IntKind.wrap .i64 (n1 + (2 : Int))), .int .u64 (0 : Int)] <| fun (n2 : Int) (n3 : Int) =>
 cond (decide (n2 < (s0.size : Int)))
  (T.need (((0 : Int) ≤ n2) ∧ (n2 < (s0.size : Int))) <|
  T.call Tryd.prog 94 [.int .u8 (sbyte s0 n2)] false [(false, [.int .i64])] <| fun (n4 : Int) =>
  cond (decide (n4 ≥ (0 : Int)))
   (cond (decide ((IntKind.wrap .i64 (n2 - n1)) < (12 : Int)))
    (T.need (((0 : Int) ≤ n2) ∧ (n2 < (s0.size : Int))) <|
    T.call Tryd.prog 94 [.int .u8 (sbyte s0 n2)] false [(false, [.int .i64])] <| fun (n5 : Int) =>
    T.again 0 [.int .i64 (IntKind.wrap .i64 (n2 + (1 : Int))), .int .u64 (IntKind.wrap .u64 ((IntKind.wrap .u64 (n3 * (16 : Int))) + (IntKind.wrap .u64 n5)))])
    (hexTail s0 n1 n2 n3))
   (hexTail s0 n1 n2 n3))
  (hexTail s0 n1 n2 n3)
theorem hexLoop_ok {s : ByteArray} {a : Nat} {K : Value → Hp → Prop} {h : Hp} (hs : s.size ≤ 2 ^ 40) (ha : a + 1 < s.size) (hx : (s.data.toList.drop a).take 2 = [48, 120])
    (hk : K (numV (s.data.toList.drop a) a) h) : hexLoop s a [] K h := by
  have hsz : s.data.toList.length = s.size := by simp
  have hr := rowN_le (s.data.toList.drop (a + 2)) hexesL
  rw [List.length_drop] at hr
  unfold hexLoop
  have hw0 : IntKind.wrap .i64 ((a : Int) + 2) = ((a + 2 + 0 : Nat) : Int) := by rw [wrap_i64 (by omega) (by omega)]; omega
  rw [hw0]
  refine loop_of (cs := [(false, [.int .i64]), (false, [.int .u64])]) (fun x n h' => h' = h ∧ ∃ j : Nat, x.1 = ((a + 2 + j : Nat) : Int) ∧ x.2.1 = ((valB 16 ((s.data.toList.drop (a + 2)).take j) : Nat) : Int) ∧ j ≤ 10 ∧ j ≤ rowN (s.data.toList.drop (a + 2)) hexesL ∧ n = 10 - j)
    (((a + 2 + 0 : Nat) : Int), (0 : Int), ()) 10 rfl ⟨rfl, 0, rfl, rfl, by omega, by omega, by omega⟩ ?_
  rintro ⟨n2, n3, ⟨⟩⟩ m h' ⟨rfl, j, hn2, hn3, hj12, hjr, rfl⟩
  simp only at hn2 hn3
  subst hn2 hn3
  dsimp only [flat, unc, unc1, List.nil_append, List.cons_append]
  have hst := rowN_step (s.data.toList.drop (a + 2)) hexesL j hjr
  rw [getD_drop', hexes_is, List.length_drop] at hst
  have hlt := val16_lt' hjr
  have hp12 : 16 ^ j ≤ 16 ^ 10 := Nat.pow_le_pow_right (by omega) hj12
  have h12 : (16:Nat) ^ 10 = 1099511627776 := rfl
  refine cond_mk (fun h1 => ?_) (fun h1 => ?_)
  · have h1 := of_decide_eq_true h1
    have hb : sbyte s ((a + 2 + j : Nat) : Int) = cN (s.data.toList.getD (a + 2 + j) 0) := by rw [sbyte_cN, show Int.toNat ((a + 2 + j : Nat) : Int) = a + 2 + j by omega]
    refine need_of ⟨by omega, by omega⟩ ?_
    rw [hb]
    have hst := hst (by omega)
    refine call_int (hex_hc _ _) (cond_mk (fun h2 => ?_) (fun h2 => ?_))
    · have h2 := of_decide_eq_true h2
      have h2' : isHex (s.data.toList.getD (a + 2 + j) 0) = true := by
        unfold hv at h2
        by_cases hh : isHex (s.data.toList.getD (a + 2 + j) 0) = true
        · exact hh
        · rw [if_neg hh] at h2; omega
      have hlt2 := hst.2 h2'
      have hw : IntKind.wrap .i64 (((a + 2 + j : Nat) : Int) - (a : Int)) = ((2 + j : Nat) : Int) := by rw [wrap_i64 (by omega) (by omega)]; omega
      refine cond_mk (fun h3 => ?_) (fun h3 => ?_)
      · rw [hw] at h3
        have h3 := of_decide_eq_true h3
        refine need_of ⟨by omega, by omega⟩ (call_int (hex_hc _ _) ?_)
        have hsn := valB_snoc 16 (s.data.toList.drop (a + 2)) j (by rw [List.length_drop]; omega)
        rw [getD_drop'] at hsn
        have hd2 := (dv_hex _ h2').2.2
        have hhv : hv (s.data.toList.getD (a + 2 + j) 0) = (dv (s.data.toList.getD (a + 2 + j) 0) : Int) := by unfold hv; rw [if_pos h2']
        rw [hhv]
        generalize hvv : valB 16 ((s.data.toList.drop (a + 2)).take j) = v at hlt hsn ⊢
        generalize dv (s.data.toList.getD (a + 2 + j) 0) = d at hsn hd2
        have hw2 : IntKind.wrap .u64 (d : Int) = d := wrap_u64 (by omega) (by omega)
        have hw3 : IntKind.wrap .u64 ((v : Int) * 16) = (v : Int) * 16 := wrap_u64 (by omega) (by omega)
        have hw4 : IntKind.wrap .u64 ((v : Int) * 16 + (d : Int)) = ((valB 16 ((s.data.toList.drop (a + 2)).take (j + 1)) : Nat) : Int) := by rw [wrap_u64 (by omega) (by omega), hsn]; omega
        have hw5 : IntKind.wrap .i64 (((a + 2 + j : Nat) : Int) + 1) = ((a + 2 + (j + 1) : Nat) : Int) := by rw [wrap_i64 (by omega) (by omega)]; omega
        rw [hw2, hw3, hw4, hw5]
        exact again_mk (cs := [(false, [.int .i64]), (false, [.int .u64])]) (((a + 2 + (j + 1) : Nat) : Int), ((valB 16 ((s.data.toList.drop (a + 2)).take (j + 1)) : Nat) : Int), ()) (10 - (j + 1)) rfl (by omega) rfl ⟨rfl, j + 1, rfl, rfl, by omega, by omega, rfl⟩
      · rw [hw] at h3
        have h3 := of_decide_eq_false h3
        exact hex_ok hs ha hx (by omega) hk
    · refine hex_ok hs ha hx ?_ hk
      have h2 := of_decide_eq_false h2
      have : ¬ j < rowN (s.data.toList.drop (a + 2)) hexesL := fun hh => by
        have h4 := hst.1 hh
        unfold hv at h2
        rw [if_pos h4] at h2
        omega
      omega
  · have h1 := of_decide_eq_false h1
    exact hex_ok hs ha hx (by omega) hk
theorem number2_hc (s : ByteArray) (a : Nat) (h : Hp) (hs : s.size ≤ 2 ^ 40) (ha : a < s.size) (hd : isDig (s.data.toList.getD a 0) = true ∨ s.data.toList.getD a 0 = 39) :
    HCp Tryd.prog 70 [.string s, .int .i64 a] h (numV (s.data.toList.drop a) a) := by
  refine hcp_of mixed Tryd.func70 (by kernel_rfl) (t_spandrelref2_number_eq s a) ?_
  unfold t_spandrelref2_number
  have hsz : s.data.toList.length = s.size := by simp
  refine need_of ⟨by omega, by omega⟩ ?_
  have hsb : ∀ j : Nat, sbyte s ((a + j : Nat) : Int) = cN (s.data.toList.getD (a + j) 0) := fun j => by rw [sbyte_cN, show Int.toNat ((a + j : Nat) : Int) = a + j by omega]
  have hsb0 : sbyte s (a : Int) = cN (s.data.toList.getD a 0) := hsb 0
  rw [hsb0]
  have hw1 : a + 3 ≤ 2 ^ 50 → ∀ j : Nat, j ≤ 3 → IntKind.wrap .i64 ((a : Int) + (j : Int)) = ((a + j : Nat) : Int) := fun _ j hj => by rw [wrap_i64 (by omega) (by omega)]; omega
  have hw1 := hw1 (by omega)
  have e1 : IntKind.wrap .i64 ((a : Int) + 1) = ((a + 1 : Nat) : Int) := hw1 1 (by omega)
  have e2 : IntKind.wrap .i64 ((a : Int) + 2) = ((a + 2 : Nat) : Int) := hw1 2 (by omega)
  have e3 : IntKind.wrap .i64 ((a : Int) + 3) = ((a + 3 : Nat) : Int) := hw1 3 (by omega)
  have hD0 : (s.data.toList.drop a).getD 0 0 = s.data.toList.getD a 0 := by rw [getD_drop', Nat.add_zero]
  refine cond_mk (fun h1 => ?_) (fun h1 => ?_)
  · have h1 := (cN_eq _ 39 rfl).1 (eq_of_beq h1)
    have hN : numR (s.data.toList.drop a) = if s.size - a < 3 ∨ (s.data.toList.getD (a + 1) 0).toNat < 32 ∨ 126 < (s.data.toList.getD (a + 1) 0).toNat ∨ s.data.toList.getD (a + 1) 0 = 39 ∨ s.data.toList.getD (a + 2) 0 ≠ 39 then (0, 0) else ((s.data.toList.getD (a + 1) 0).toNat, 3) := by
      unfold numR
      rw [hD0, if_pos h1]
      simp only [getD_drop', List.length_drop, hsz]
    unfold numV
    rw [hN, e1, e2, e3, hsb 1, hsb 2]
    refine cond_mk (fun h2 => ?_) (fun h2 => ?_)
    · have h2 := of_decide_eq_true h2
      rw [if_pos (.inl (by omega))]
      exact ⟨rfl, rfl⟩
    have h2 := of_decide_eq_false h2
    refine need_of ⟨by omega, by omega⟩ (cond_mk (fun h3 => ?_) (fun h3 => ?_))
    · have h3 := of_decide_eq_true h3
      rw [if_pos (.inr (.inl (by unfold cN at h3; omega)))]
      exact ⟨rfl, rfl⟩
    have h3 := of_decide_eq_false h3
    refine need_of ⟨by omega, by omega⟩ (cond_mk (fun h4 => ?_) (fun h4 => ?_))
    · have h4 := of_decide_eq_true h4
      rw [if_pos (.inr (.inr (.inl (by unfold cN at h4; omega))))]
      exact ⟨rfl, rfl⟩
    have h4 := of_decide_eq_false h4
    refine need_of ⟨by omega, by omega⟩ (cond_mk (fun h5 => ?_) (fun h5 => ?_))
    · have h5 := (cN_eq _ 39 rfl).1 (eq_of_beq h5)
      rw [if_pos (.inr (.inr (.inr (.inl h5))))]
      exact ⟨rfl, rfl⟩
    have h5 := ne_of_beq_false h5
    refine need_of ⟨by omega, by omega⟩ (cond_mk (fun h6 => ?_) (fun h6 => ?_))
    · have h6 : cN (s.data.toList.getD (a + 2) 0) ≠ 39 := by simpa using h6
      rw [if_pos (.inr (.inr (.inr (.inr (fun hh => h6 ((cN_eq _ 39 rfl).2 hh))))))]
      exact ⟨rfl, rfl⟩
    have h6 : cN (s.data.toList.getD (a + 2) 0) = 39 := by simpa using h6
    have hcn : cN (s.data.toList.getD (a + 1) 0) = ((s.data.toList.getD (a + 1) 0).toNat : Int) := rfl
    rw [if_neg (by
      rintro (hh | hh | hh | hh | hh)
      · omega
      · omega
      · omega
      · exact h5 ((cN_eq _ 39 rfl).2 hh)
      · exact hh ((cN_eq _ 39 rfl).1 h6))]
    refine need_of ⟨by omega, by omega⟩ ⟨?_, rfl⟩
    have hb := (s.data.toList.getD (a + 1) 0).toNat_lt
    rw [wrap_u32 (by omega) (by omega), hcn]
    rfl
  have h1 : s.data.toList.getD a 0 ≠ 39 := fun hh => ne_of_beq_false h1 ((cN_eq _ 39 rfl).2 hh)
  have hd : isDig (s.data.toList.getD a 0) = true := hd.resolve_right h1
  refine need_of ⟨by omega, by omega⟩ ?_
  have dec : ¬ (s.data.toList.drop a).take 2 = [48, 120] → decLoop s a [] (fun v' h' => v' = numV (s.data.toList.drop a) a ∧ h' = h) h := fun hx => decLoop_ok hs ha hd hx ⟨rfl, rfl⟩
  have htake : ∀ b : UInt8, (s.data.toList.drop a).take 2 = [48, b] ↔ s.data.toList.getD a 0 = 48 ∧ a + 1 < s.size ∧ s.data.toList.getD (a + 1) 0 = b := by
    intro b
    have ea : s.data.toList.drop a = s.data.toList.getD a 0 :: s.data.toList.drop (a + 1) := by
      rw [List.drop_eq_getElem_cons (by omega)]
      congr 1
      rw [List.getD_eq_getElem?_getD, List.getElem?_eq_getElem (by omega)]; rfl
    rw [ea]
    by_cases h2 : a + 1 < s.size
    · have eb : s.data.toList.drop (a + 1) = s.data.toList.getD (a + 1) 0 :: s.data.toList.drop (a + 2) := by
        rw [List.drop_eq_getElem_cons (by omega)]
        congr 1
        rw [List.getD_eq_getElem?_getD, List.getElem?_eq_getElem (by omega)]; rfl
      rw [eb]
      simp [h2]
    · rw [List.drop_eq_nil_of_le (i := a + 1) (by omega)]
      simp [h2]
  refine cond_mk (fun h2 => ?_) (fun h2 => ?_)
  · have h2 := (cN_eq _ 48 rfl).1 (eq_of_beq h2)
    rw [e1]
    refine cond_mk (fun h3 => ?_) (fun h3 => ?_)
    · have h3 := of_decide_eq_true h3
      refine need_of ⟨by omega, by omega⟩ ?_
      rw [hsb 1]
      refine cond_mk (fun h4 => ?_) (fun h4 => ?_)
      · have h4 := (cN_eq _ 120 rfl).1 (eq_of_beq h4)
        exact hexLoop_ok hs (by omega) ((htake 120).2 ⟨h2, by omega, h4⟩) ⟨rfl, rfl⟩
      · exact dec (fun hh => ne_of_beq_false h4 ((cN_eq _ 120 rfl).2 ((htake 120).1 hh).2.2))
    · have h3 := of_decide_eq_false h3
      exact dec (fun hh => h3 (by have := ((htake 120).1 hh).2.1; omega))
  · exact dec (fun hh => ne_of_beq_false h2 ((cN_eq _ 48 rfl).2 ((htake 120).1 hh).1))
end Go.Sx
