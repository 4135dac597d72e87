/- Plain laws on numbers at the head of a text. No condition. -/
import Derived.Test.YtpbjlnlekobodaaDoorLexGP
import Derived.Test.YtpbjlnlekobodaaDoorLexJK
set_option linter.unusedVariables false
set_option linter.unusedSimpArgs false
set_option linter.deprecated false
set_option maxRecDepth 100000
namespace Go.Sx
open Go.Proofs
/-- The number at a text's head, digits or a sign in quotes: what it says, how long it is (0: there is none). -/
def numR (D : List UInt8) : Nat × Nat :=
  if D.getD 0 0 = 39 then
    (if D.length < 3 ∨ (D.getD 1 0).toNat < 32 ∨ 126 < (D.getD 1 0).toNat ∨ D.getD 1 0 = 39 ∨ D.getD 2 0 ≠ 39 then (0, 0) else ((D.getD 1 0).toNat, 3))
  else if (numL D).1 = 0 ∨ 0 < rowN (D.drop (numL D).1) gluedL then (0, 0) else ((numL D).2, (numL D).1)
theorem lexD_num {D : List UInt8} (h : isDig (D.getD 0 0) = true ∨ D.getD 0 0 = 39) (h0 : D ≠ []) : lexD D = if (numR D).2 = 0 then .wrong else .tok 2 (numR D).2 (numR D).1 := by
  have hc : D.getD 0 0 ≠ 59 ∧ isLet (D.getD 0 0) = false := by
    have := all_bytes (fun c => !(isDig c || decide (c = 39)) || (!decide (c = 59) && !isLet c)) (fun _ => true) (by decide +kernel) (D.getD 0 0)
    have h' : (isDig (D.getD 0 0) || decide (D.getD 0 0 = 39)) = true := by
      rcases h with h | h
      · rw [h]; rfl
      · rw [h]; rfl
    simp only [h', Bool.not_true, Bool.false_or, Bool.and_eq_true, Bool.not_eq_true', decide_eq_false_iff_not] at this
    exact this
  unfold lexD numR
  rw [if_neg h0, if_neg hc.1, if_neg (by rw [hc.2]; simp)]
  by_cases h1 : isDig (D.getD 0 0) = true
  · have h2 : D.getD 0 0 ≠ 39 := fun hh => by rw [hh] at h1; revert h1; decide
    rw [if_pos h1, if_neg h2]
    by_cases h3 : (numL D).1 = 0 ∨ 0 < rowN (D.drop (numL D).1) gluedL
    · rw [if_pos h3, if_pos h3]; rfl
    · rw [if_neg h3, if_neg h3, if_neg (fun hh => h3 (.inl hh))]
  · have h2 : D.getD 0 0 = 39 := h.resolve_left h1
    rw [if_neg h1, if_pos h2, if_pos h2]
    split <;> rfl
theorem foldl_pow (b : Nat) : ∀ (l : List UInt8) (n : Nat), n * b ^ l.length ≤ l.foldl (fun n c => n * b + dv c) n
  | [], n => by simp
  | c :: l, n => by
    rw [List.foldl_cons, List.length_cons, Nat.pow_succ]
    refine Nat.le_trans ?_ (foldl_pow b l _)
    rw [Nat.mul_comm (b ^ l.length) b, ← Nat.mul_assoc]
    exact Nat.mul_le_mul_right _ (Nat.le_add_right _ _)
theorem val_big {D : List UInt8} {n : Nat} (hn : 0 < n) (hl : n ≤ D.length) (hd : isDig (D.getD 0 0) = true) (h0 : D.getD 0 0 ≠ 48) : 10 ^ (n - 1) ≤ valB 10 (D.take n) := by
  cases D with
  | nil => simp at hl; omega
  | cons d D =>
    obtain ⟨n, rfl⟩ : ∃ n', n = n' + 1 := ⟨n - 1, by omega⟩
    simp only [List.getD_cons_zero, List.length_cons] at hd h0 hl
    rw [List.take_succ_cons]
    unfold valB
    rw [List.foldl_cons]
    have h1 := foldl_pow 10 (D.take n) (0 * 10 + dv d)
    rw [List.length_take, Nat.min_eq_left (by omega)] at h1
    refine Nat.le_trans ?_ h1
    have h2 := (isDig_iff d).1 hd
    have h3 : d.toNat ≠ 48 := fun hh => h0 (UInt8.toNat_inj.1 hh)
    have h4 : 1 ≤ 0 * 10 + dv d := by
      unfold cN at h2
      unfold dv
      split <;> omega
    have := Nat.mul_le_mul_right (10 ^ n) h4
    simpa using this
theorem val_small (b : Nat) (hb : 0 < b) : ∀ (l : List UInt8) (n : Nat), (∀ c ∈ l, dv c < b) → l.foldl (fun n c => n * b + dv c) n < (n + 1) * b ^ l.length
  | [], n, _ => by simp
  | c :: l, n, h => by
    rw [List.foldl_cons, List.length_cons, Nat.pow_succ]
    refine Nat.lt_of_lt_of_le (val_small b hb l _ fun d hd => h d (by simp [hd])) ?_
    rw [Nat.mul_comm (b ^ l.length) b, ← Nat.mul_assoc]
    refine Nat.mul_le_mul_right _ ?_
    have := h c (by simp)
    rw [Nat.add_mul]; omega
theorem dv_dig (c : UInt8) (h : isDig c = true) : (dv c : Int) = cN c - 48 ∧ dv c < 10 := by
  have h2 := (isDig_iff c).1 h
  unfold dv cN at *
  split <;> omega
theorem rowN_mem {set l : List UInt8} {k : Nat} (hk : k ≤ rowN l set) {c : UInt8} (hc : c ∈ l.take k) : set.contains c = true := by
  obtain ⟨i, hi, rfl⟩ := List.getElem_of_mem hc
  rw [List.length_take] at hi
  have := rowN_get (s := l) (set := set) (i := i) (by omega)
  rw [List.getD_eq_getElem?_getD, List.getElem?_eq_getElem (by omega), Option.getD_some] at this
  rw [List.getElem_take]
  exact this
theorem val10_lt {l : List UInt8} {k : Nat} (hk : k ≤ rowN l digitsL) : valB 10 (l.take k) < 10 ^ k := by
  have hle := rowN_le l digitsL
  have := val_small 10 (by omega) (l.take k) 0 (fun c hc => (dv_dig c (by rw [← digits_is]; exact rowN_mem hk hc)).2)
  rw [List.length_take, Nat.min_eq_left (by omega)] at this
  unfold valB
  omega
theorem val16_lt' {l : List UInt8} {k : Nat} (hk : k ≤ rowN l hexesL) : valB 16 (l.take k) < 16 ^ k := by
  have hle := rowN_le l hexesL
  have := val_small 16 (by omega) (l.take k) 0 (fun c hc => (dv_hex c (by rw [← hexes_is]; exact rowN_mem hk hc)).2.2)
  rw [List.length_take, Nat.min_eq_left (by omega)] at this
  unfold valB
  omega
end Go.Sx
