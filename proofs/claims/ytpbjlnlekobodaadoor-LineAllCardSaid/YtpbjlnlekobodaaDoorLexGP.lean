/- A lexer in plain Lean and its laws. No condition. -/
import Derived.Test.YtpbjlnlekobodaaDoorLexDF
set_option linter.unusedVariables false
set_option linter.unusedSimpArgs false
set_option linter.deprecated false
set_option maxRecDepth 100000
namespace Go.Sx
open Go.Proofs
/-- A token. -/
structure Tok where
  kind : Nat
  text : ByteArray
  num : Nat
  at_ : Nat
def enc (t : Tok) : List Value := [.int .i64 t.kind, .string t.text, .int .u32 t.num, .int .i64 t.at_]
def blanksL : List UInt8 := [9, 13, 32]
def gluedL : List UInt8 := lettersL ++ digitsL
def signsL : List UInt8 := [58, 44, 40, 41, 43, 45, 42, 61]
inductive Step where
  | stop
  | wrong (at_ : Nat)
  | tok (t : Tok) (next : Nat)
/-- What stands at a place: the token behind the blanks. -/
def lexAt (s : ByteArray) (a : Nat) : Step :=
  if a = s.size then .stop
  else if s.data.toList.getD a 0 = 59 then .stop
  else if isLet (s.data.toList.getD a 0) = true then
    if 32 < rowN (s.data.toList.drop a) gluedL then .wrong a else .tok ⟨1, s.extract a (a + rowN (s.data.toList.drop a) gluedL), 0, a⟩ (a + rowN (s.data.toList.drop a) gluedL)
  else if isDig (s.data.toList.getD a 0) = true then
    if (numL (s.data.toList.drop a)).1 = 0 ∨ 0 < rowN (s.data.toList.drop (a + (numL (s.data.toList.drop a)).1)) gluedL then .wrong a
    else .tok ⟨2, s.extract a (a + (numL (s.data.toList.drop a)).1), (numL (s.data.toList.drop a)).2, a⟩ (a + (numL (s.data.toList.drop a)).1)
  else if s.data.toList.getD a 0 = 39 then
    if s.size < a + 3 ∨ (s.data.toList.getD (a + 1) 0).toNat < 32 ∨ 126 < (s.data.toList.getD (a + 1) 0).toNat ∨ s.data.toList.getD (a + 1) 0 = 39 ∨ s.data.toList.getD (a + 2) 0 ≠ 39 then .wrong a
    else .tok ⟨2, s.extract a (a + 3), (s.data.toList.getD (a + 1) 0).toNat, a⟩ (a + 3)
  else if signsL.contains (s.data.toList.getD a 0) = true then .tok ⟨3, s.extract a (a + 1), 0, a⟩ (a + 1)
  else .wrong a
def lexStep (s : ByteArray) (k : Nat) : Step := lexAt s (k + rowN (s.data.toList.drop k) blanksL)
def lexF (s : ByteArray) : Nat → Nat → List Tok → List Tok × Nat × Nat
  | 0, _, acc => (acc, 0, 0)
  | f + 1, k, acc =>
    match lexStep s k with
    | .stop => (acc, 0, 0)
    | .wrong a => ([], a, 20)
    | .tok t k' => lexF s f k' (acc ++ [t])
/-- A text's tokens, or the place of the first wrong byte. -/
def lexS (s : ByteArray) : List Tok × Nat × Nat := lexF s (s.size + 1) 0 []
theorem numL_le (l : List UInt8) : (numL l).1 ≤ l.length ∧ (numL l).2 < 4294967296 := by
  unfold numL
  split
  · rename_i h
    have h2 := congrArg List.length h
    rw [List.length_take] at h2
    simp only [List.length_cons, List.length_nil] at h2
    have h3 := rowN_le (l.drop 2) hexesL
    rw [List.length_drop] at h3
    split
    · simp
    · rename_i h4
      refine ⟨by simp only; omega, ?_⟩
      refine val16_lt (by rw [List.length_take]; omega) (fun i hi => ?_)
      rw [List.length_take] at hi
      rw [getD_take (by omega), ← hexes_is]
      exact rowN_get (by omega)
  · have h3 := rowN_le l digitsL
    split
    · simp
    · rename_i h4
      exact ⟨h3, by simp only; omega⟩
theorem lexF_tok {s : ByteArray} {f k k' : Nat} {acc : List Tok} {t : Tok} (h : lexStep s k = .tok t k') : lexF s (f + 1) k acc = lexF s f k' (acc ++ [t]) := by
  show (match lexStep s k with
    | .stop => (acc, 0, 0)
    | .wrong a => ([], a, 20)
    | .tok t k' => lexF s f k' (acc ++ [t])) = _
  rw [h]
theorem lexF_stop {s : ByteArray} {f k : Nat} {acc : List Tok} (h : lexStep s k = .stop) : lexF s (f + 1) k acc = (acc, 0, 0) := by
  show (match lexStep s k with
    | .stop => (acc, 0, 0)
    | .wrong a => ([], a, 20)
    | .tok t k' => lexF s f k' (acc ++ [t])) = _
  rw [h]
theorem lexF_wrong {s : ByteArray} {f k a : Nat} {acc : List Tok} (h : lexStep s k = .wrong a) : lexF s (f + 1) k acc = ([], a, 20) := by
  show (match lexStep s k with
    | .stop => (acc, 0, 0)
    | .wrong a => ([], a, 20)
    | .tok t k' => lexF s f k' (acc ++ [t])) = _
  rw [h]
/-- Where a token stands, and how far it reaches. -/
theorem lexAt_tok {s : ByteArray} {a k' : Nat} {t : Tok} (ha : a ≤ s.size) (h : lexAt s a = .tok t k') : a < k' ∧ k' ≤ s.size ∧ t.at_ = a ∧ t.text = s.extract a k' := by
  have hsz : s.data.toList.length = s.size := by simp
  unfold lexAt at h
  split at h
  · cases h
  split at h
  · cases h
  have hlen : (s.data.toList.drop a).length = s.size - a := by rw [List.length_drop, hsz]
  split at h
  · rename_i h1 h2 h3
    split at h
    · cases h
    · cases h
      have h5 := rowN_le (s.data.toList.drop a) gluedL
      have h6 := (rowN_pos (s := s.data.toList.drop a) (set := gluedL) (by omega)).2 (by
        rw [show (s.data.toList.drop a).getD 0 0 = s.data.toList.getD a 0 from by simp [List.getD]]
        show (lettersL ++ digitsL).contains _ = true
        rw [glued_is, h3]; rfl)
      exact ⟨by omega, by omega, rfl, rfl⟩
  split at h
  · split at h
    · cases h
    · cases h
      have h5 := (numL_le (s.data.toList.drop a)).1
      exact ⟨by omega, by omega, rfl, rfl⟩
  split at h
  · split at h
    · cases h
    · cases h
      exact ⟨by omega, by omega, rfl, rfl⟩
  split at h
  · cases h
    exact ⟨by omega, by omega, rfl, rfl⟩
  · cases h
end Go.Sx

set_option linter.unusedVariables false
set_option maxRecDepth 100000
namespace Go.Sx
open Go.Proofs
inductive LexD where
  | stop
  | wrong
  | tok (kind len num : Nat)
/-- What stands at the head of a text. -/
def lexD (D : List UInt8) : LexD :=
  if D = [] then .stop
  else if D.getD 0 0 = 59 then .stop
  else if isLet (D.getD 0 0) = true then
    if 32 < rowN D gluedL then .wrong else .tok 1 (rowN D gluedL) 0
  else if isDig (D.getD 0 0) = true then
    if (numL D).1 = 0 ∨ 0 < rowN (D.drop (numL D).1) gluedL then .wrong else .tok 2 (numL D).1 (numL D).2
  else if D.getD 0 0 = 39 then
    if D.length < 3 ∨ (D.getD 1 0).toNat < 32 ∨ 126 < (D.getD 1 0).toNat ∨ D.getD 1 0 = 39 ∨ D.getD 2 0 ≠ 39 then .wrong
    else .tok 2 3 (D.getD 1 0).toNat
  else if signsL.contains (D.getD 0 0) = true then .tok 3 1 0
  else .wrong
def mkStep (s : ByteArray) (a : Nat) : LexD → Step
  | .stop => .stop
  | .wrong => .wrong a
  | .tok k n m => .tok ⟨k, s.extract a (a + n), m, a⟩ (a + n)
theorem getD_drop' (l : List UInt8) (a j : Nat) : (l.drop a).getD j 0 = l.getD (a + j) 0 := by
  simp [List.getD_eq_getElem?_getD, List.getElem?_drop]
theorem lexAt_lexD (s : ByteArray) (a : Nat) (ha : a ≤ s.size) : lexAt s a = mkStep s a (lexD (s.data.toList.drop a)) := by
  unfold lexAt lexD
  have hsz : s.data.toList.length = s.size := by simp
  simp only [getD_drop', Nat.add_zero, List.drop_drop, List.length_drop, hsz]
  by_cases h1 : a = s.size
  · rw [if_pos h1, if_pos (List.drop_eq_nil_of_le (by omega))]; rfl
  have h1' : ¬ s.data.toList.drop a = [] := fun hh => h1 (by have := List.drop_eq_nil_iff.1 hh; omega)
  rw [if_neg h1, if_neg h1']
  by_cases h2 : s.data.toList.getD a 0 = 59
  · rw [if_pos h2, if_pos h2]; rfl
  rw [if_neg h2, if_neg h2]
  by_cases h3 : isLet (s.data.toList.getD a 0) = true
  · rw [if_pos h3, if_pos h3]
    split <;> rfl
  rw [if_neg h3, if_neg h3]
  by_cases h4 : isDig (s.data.toList.getD a 0) = true
  · rw [if_pos h4, if_pos h4]
    split <;> rfl
  rw [if_neg h4, if_neg h4]
  by_cases h5 : s.data.toList.getD a 0 = 39
  · rw [if_pos h5, if_pos h5]
    by_cases h6 : s.size < a + 3
    · rw [if_pos (.inl h6), if_pos (.inl (by omega))]; rfl
    · by_cases h7 : (s.data.toList.getD (a + 1) 0).toNat < 32 ∨ 126 < (s.data.toList.getD (a + 1) 0).toNat ∨ s.data.toList.getD (a + 1) 0 = 39 ∨ s.data.toList.getD (a + 2) 0 ≠ 39
      · rw [if_pos (.inr h7), if_pos (.inr h7)]; rfl
      · rw [if_neg (by intro hh; rcases hh with hh | hh; exact h6 hh; exact h7 hh), if_neg (by intro hh; rcases hh with hh | hh; omega; exact h7 hh)]; rfl
  rw [if_neg h5, if_neg h5]
  split <;> rfl
theorem takeWhile_all {p : UInt8 → Bool} : ∀ (l : List UInt8) {c : UInt8}, c ∈ l.takeWhile p → p c = true
  | [], c, h => by simp at h
  | d :: l, c, h => by
    rw [List.takeWhile_cons] at h
    cases hd : p d with
    | false => rw [hd] at h; simp at h
    | true =>
      rw [hd] at h
      simp only [if_true, List.mem_cons] at h
      rcases h with rfl | h
      · exact hd
      · exact takeWhile_all l h
theorem rowN_take_append {set D E : List UInt8} (hE : rowN E set = 0) : rowN (D.take (rowN D set) ++ E) set = rowN D set := by
  unfold rowN at hE ⊢
  have h1 : E.takeWhile (fun c => set.contains c) = [] := List.eq_nil_of_length_eq_zero hE
  have h2 : D.take (D.takeWhile fun c => set.contains c).length = D.takeWhile fun c => set.contains c := (List.prefix_iff_eq_take.1 (List.takeWhile_prefix _)).symm
  rw [h2, List.takeWhile_append_of_pos, h1, List.append_nil]
  exact fun c hc => takeWhile_all D hc
theorem rowN_zero {set D : List UInt8} : rowN D set = 0 ↔ ∀ c r, D = c :: r → set.contains c = false := by
  unfold rowN
  cases D with
  | nil => simp
  | cons c r =>
    simp only [List.takeWhile_cons, List.cons.injEq, and_imp]
    cases h : set.contains c with
    | false => simp only [Bool.false_eq_true, if_false, List.length_nil, true_iff]; rintro _ _ rfl rfl; exact h
    | true => simp only [if_true, List.length_cons, Nat.add_one_ne_zero, false_iff]; intro hh; have := hh c r rfl rfl; rw [h] at this; cases this
theorem digits_glued (c : UInt8) (h : gluedL.contains c = false) : digitsL.contains c = false := by
  have := all_bytes (fun c => gluedL.contains c || !digitsL.contains c) (fun _ => true) (by decide +kernel) c
  simp only [h, Bool.false_or, Bool.not_eq_true'] at this
  exact this
theorem hexes_glued (c : UInt8) (h : gluedL.contains c = false) : hexesL.contains c = false := by
  have := all_bytes (fun c => gluedL.contains c || !hexesL.contains c) (fun _ => true) (by decide +kernel) c
  simp only [h, Bool.false_or, Bool.not_eq_true'] at this
  exact this
theorem rowN_digits0 {E : List UInt8} (h : rowN E gluedL = 0) : rowN E digitsL = 0 := rowN_zero.2 fun c r he => digits_glued c (rowN_zero.1 h c r he)
theorem rowN_hexes0 {E : List UInt8} (h : rowN E gluedL = 0) : rowN E hexesL = 0 := rowN_zero.2 fun c r he => hexes_glued c (rowN_zero.1 h c r he)
/-- A number is read again where something else follows. -/
theorem numL_local {D E : List UInt8} (h0 : (numL D).1 ≠ 0) (hE : rowN E gluedL = 0) : numL (D.take (numL D).1 ++ E) = numL D := by
  by_cases h1 : D.take 2 = [48, 120]
  · have hD : numL D = if 8 < rowN (D.drop 2) hexesL ∨ rowN (D.drop 2) hexesL = 0 then (0, 0) else (2 + rowN (D.drop 2) hexesL, valB 16 ((D.drop 2).take (rowN (D.drop 2) hexesL))) := by
      unfold numL; rw [if_pos h1]
    have hlen : 2 ≤ D.length := by
      have := congrArg List.length h1
      rw [List.length_take] at this
      simp at this; omega
    by_cases h2 : 8 < rowN (D.drop 2) hexesL ∨ rowN (D.drop 2) hexesL = 0
    · rw [if_pos h2] at hD
      rw [hD] at h0
      exact (h0 rfl).elim
    · rw [if_neg h2] at hD
      rw [hD]
      have hr := rowN_le (D.drop 2) hexesL
      have hloc := rowN_take_append (set := hexesL) (D := D.drop 2) (rowN_hexes0 hE)
      generalize rowN (D.drop 2) hexesL = r at *
      simp only
      have e1 : D.take (2 + r) = [48, 120] ++ (D.drop 2).take r := by
        rw [← h1, List.take_add]
      rw [e1, List.append_assoc]
      unfold numL
      rw [if_pos (by rfl)]
      have e2 : ([48, 120] ++ ((D.drop 2).take r ++ E)).drop 2 = (D.drop 2).take r ++ E := rfl
      rw [e2, hloc, if_neg h2]
      have e3 : ((D.drop 2).take r ++ E).take r = (D.drop 2).take r := by
        rw [List.take_append_of_le_length (by rw [List.length_take]; omega), List.take_take, Nat.min_self]
      rw [e3]
  · have hD : numL D = if (1 < rowN D digitsL ∧ D.getD 0 0 = 48) ∨ rowN D digitsL = 0 ∨ 4294967296 ≤ valB 10 (D.take (rowN D digitsL)) then (0, 0) else (rowN D digitsL, valB 10 (D.take (rowN D digitsL))) := by
      unfold numL; rw [if_neg h1]
    by_cases h2 : (1 < rowN D digitsL ∧ D.getD 0 0 = 48) ∨ rowN D digitsL = 0 ∨ 4294967296 ≤ valB 10 (D.take (rowN D digitsL))
    · rw [if_pos h2] at hD
      rw [hD] at h0
      exact (h0 rfl).elim
    · rw [if_neg h2] at hD
      rw [hD]
      have hr := rowN_le D digitsL
      have hloc := rowN_take_append (set := digitsL) (D := D) (rowN_digits0 hE)
      generalize rowN D digitsL = r at *
      simp only
      have hrp : 0 < r := by
        rcases Nat.eq_zero_or_pos r with h | h
        · exact (h2 (.inr (.inl h))).elim
        · exact h
      have e3 : (D.take r ++ E).take r = D.take r := by
        rw [List.take_append_of_le_length (by rw [List.length_take]; omega), List.take_take, Nat.min_self]
      have e4 : (D.take r ++ E).getD 0 0 = D.getD 0 0 := by
        cases D with
        | nil => simp at hr; omega
        | cons d D => obtain ⟨r, rfl⟩ : ∃ r', r = r' + 1 := ⟨r - 1, by omega⟩; simp
      have e5 : ¬ (D.take r ++ E).take 2 = [48, 120] := by
        intro hh
        by_cases h3 : 2 ≤ r
        · rw [List.take_append_of_le_length (by rw [List.length_take]; omega), List.take_take, Nat.min_eq_left h3] at hh
          exact h1 hh
        · have hr1 : r = 1 := by omega
          subst hr1
          cases D with
          | nil => simp at hr
          | cons d D =>
            cases E with
            | nil => simp at hh
            | cons c E =>
              simp at hh
              have := rowN_zero.1 hE c E rfl
              rw [hh.2] at this
              revert this; decide +kernel
      unfold numL
      rw [if_neg e5, hloc, e3, e4, if_neg h2]
/-- A token is read again where something else follows: what is glued to it alone matters. -/
theorem lexD_local {D E : List UInt8} {k n m : Nat} (h : lexD D = .tok k n m) (hE : rowN E gluedL = 0 ∨ rowN (D.drop n) gluedL ≠ 0) : lexD (D.take n ++ E) = .tok k n m ∧ 0 < n ∧ n ≤ D.length := by
  cases D with
  | nil => simp [lexD] at h
  | cons d D =>
    unfold lexD at h
    rw [if_neg (by simp)] at h
    rw [List.getD_cons_zero] at h
    have key : 0 < n → lexD ((d :: D).take n ++ E) = (if d = 59 then .stop
      else if isLet d = true then
        if 32 < rowN ((d :: D).take n ++ E) gluedL then .wrong else .tok 1 (rowN ((d :: D).take n ++ E) gluedL) 0
      else if isDig d = true then
        if (numL ((d :: D).take n ++ E)).1 = 0 ∨ 0 < rowN (((d :: D).take n ++ E).drop (numL ((d :: D).take n ++ E)).1) gluedL then .wrong else .tok 2 (numL ((d :: D).take n ++ E)).1 (numL ((d :: D).take n ++ E)).2
      else if d = 39 then
        if ((d :: D).take n ++ E).length < 3 ∨ (((d :: D).take n ++ E).getD 1 0).toNat < 32 ∨ 126 < (((d :: D).take n ++ E).getD 1 0).toNat ∨ ((d :: D).take n ++ E).getD 1 0 = 39 ∨ ((d :: D).take n ++ E).getD 2 0 ≠ 39 then .wrong
        else .tok 2 3 (((d :: D).take n ++ E).getD 1 0).toNat
      else if signsL.contains d = true then .tok 3 1 0
      else .wrong) := by
      intro hn
      have e0 : ((d :: D).take n ++ E).getD 0 0 = d := by
        obtain ⟨n, rfl⟩ : ∃ n', n = n' + 1 := ⟨n - 1, by omega⟩
        simp
      conv => lhs; unfold lexD
      rw [if_neg (by obtain ⟨n, rfl⟩ : ∃ n', n = n' + 1 := ⟨n - 1, by omega⟩; simp), e0]
    by_cases h2 : d = 59
    · rw [if_pos h2] at h; cases h
    rw [if_neg h2] at h
    by_cases h3 : isLet d = true
    · rw [if_pos h3] at h
      have hpos := rowN_step (d :: D) gluedL 0 (by omega) (by simp)
      rw [List.getD_cons_zero, show gluedL = lettersL ++ digitsL from rfl, glued_is, h3] at hpos
      have hpos := hpos.2 rfl
      rw [← show gluedL = lettersL ++ digitsL from rfl] at hpos
      by_cases h4 : 32 < rowN (d :: D) gluedL
      · rw [if_pos h4] at h; cases h
      rw [if_neg h4] at h
      injection h with a1 a2 a3
      subst a1 a2 a3
      have hr := rowN_le (d :: D) gluedL
      have hE0 : rowN E gluedL = 0 := by
        rcases hE with hE | hE
        · exact hE
        · refine (hE ?_).elim
          refine rowN_zero.2 fun c r he => ?_
          have := takeWhile_step (p := fun c => gluedL.contains c) (d :: D) (rowN (d :: D) gluedL) (Nat.le_refl _) (by
            have := congrArg List.length he
            rw [List.length_drop] at this; simp at this ⊢; omega)
          have h5 : ¬ rowN (d :: D) gluedL < ((d :: D).takeWhile fun c => gluedL.contains c).length := Nat.lt_irrefl _
          rw [this] at h5
          have h6 : (d :: D).getD (rowN (d :: D) gluedL) 0 = c := by
            have := congrArg (fun l => l.getD 0 0) he
            simp only [getD_drop', Nat.add_zero, List.getD_cons_zero] at this
            exact this
          rw [h6] at h5
          simpa using h5
      refine ⟨?_, hpos, hr⟩
      rw [key hpos, if_neg h2, if_pos h3, rowN_take_append hE0, if_neg h4]
    rw [if_neg h3] at h
    by_cases h4 : isDig d = true
    · rw [if_pos h4] at h
      by_cases h5 : (numL (d :: D)).1 = 0 ∨ 0 < rowN ((d :: D).drop (numL (d :: D)).1) gluedL
      · rw [if_pos h5] at h; cases h
      rw [if_neg h5] at h
      injection h with a1 a2 a3
      subst a1 a2 a3
      have hE0 : rowN E gluedL = 0 := by
        rcases hE with hE | hE
        · exact hE
        · omega
      have hl := (numL_le (d :: D)).1
      have hz : (numL (d :: D)).1 ≠ 0 := fun hh => h5 (.inl hh)
      have hloc := numL_local hz hE0
      refine ⟨?_, by omega, hl⟩
      rw [key (by omega), if_neg h2, if_neg h3, if_pos h4, hloc]
      rw [List.drop_append_of_le_length (by rw [List.length_take]; omega), List.drop_take, Nat.sub_self, List.take_zero, List.nil_append, if_neg (by omega)]
    rw [if_neg h4] at h
    by_cases h5 : d = 39
    · rw [if_pos h5] at h
      by_cases h6 : (d :: D).length < 3 ∨ ((d :: D).getD 1 0).toNat < 32 ∨ 126 < ((d :: D).getD 1 0).toNat ∨ (d :: D).getD 1 0 = 39 ∨ (d :: D).getD 2 0 ≠ 39
      · rw [if_pos h6] at h; cases h
      rw [if_neg h6] at h
      injection h with a1 a2 a3
      subst a1 a2 a3
      have hlen : 3 ≤ (d :: D).length := by omega
      refine ⟨?_, by omega, hlen⟩
      match D, hlen with
      | d1 :: d2 :: D, _ =>
        rw [key (by omega), if_neg h2, if_neg h3, if_neg h4, if_pos h5]
        simp only [List.take_succ_cons, List.take_zero, List.cons_append, List.nil_append, List.getD_cons_succ, List.getD_cons_zero, List.length_cons] at h6 ⊢
        rw [if_neg (by intro hh; apply h6; rcases hh with hh | hh; omega; exact .inr hh)]
    rw [if_neg h5] at h
    by_cases h6 : signsL.contains d = true
    · rw [if_pos h6] at h
      injection h with a1 a2 a3
      subst a1 a2 a3
      refine ⟨?_, by omega, by simp⟩
      rw [key (by omega), if_neg h2, if_neg h3, if_neg h4, if_neg h5, if_pos h6]
    · rw [if_neg h6] at h; cases h
end Go.Sx
