/- A lexer in plain Lean and its laws. No condition. -/
import Derived.Test.YtpbjlnlekobodaaDoorLexF
set_option linter.unusedVariables false
set_option linter.unusedSimpArgs false
set_option linter.deprecated false
set_option maxRecDepth 100000
namespace Go.Sx
open Go.Proofs
/-- A token. -/
structure Tok where
  kind : Nat
  text : ByteArray
  num : Nat
  at_ : Nat
def enc (t : Tok) : List Value := [.int .i64 t.kind, .string t.text, .int .u32 t.num, .int .i64 t.at_]
def blanksL : List UInt8 := [9, 13, 32]
def gluedL : List UInt8 := lettersL ++ digitsL
def signsL : List UInt8 := [58, 44, 40, 41, 43, 45, 42, 61]
inductive Step where
  | stop
  | wrong (at_ : Nat)
  | tok (t : Tok) (next : Nat)
/-- What stands at a place: the token behind the blanks. -/
def lexAt (s : ByteArray) (a : Nat) : Step :=
  if a = s.size then .stop
  else if s.data.toList.getD a 0 = 59 then .stop
  else if isLet (s.data.toList.getD a 0) = true then
    if 32 < rowN (s.data.toList.drop a) gluedL then .wrong a else .tok ⟨1, s.extract a (a + rowN (s.data.toList.drop a) gluedL), 0, a⟩ (a + rowN (s.data.toList.drop a) gluedL)
  else if isDig (s.data.toList.getD a 0) = true then
    if (numL (s.data.toList.drop a)).1 = 0 ∨ 0 < rowN (s.data.toList.drop (a + (numL (s.data.toList.drop a)).1)) gluedL then .wrong a
    else .tok ⟨2, s.extract a (a + (numL (s.data.toList.drop a)).1), (numL (s.data.toList.drop a)).2, a⟩ (a + (numL (s.data.toList.drop a)).1)
  else if s.data.toList.getD a 0 = 39 then
    if s.size < a + 3 ∨ (s.data.toList.getD (a + 1) 0).toNat < 32 ∨ 126 < (s.data.toList.getD (a + 1) 0).toNat ∨ s.data.toList.getD (a + 1) 0 = 39 ∨ s.data.toList.getD (a + 2) 0 ≠ 39 then .wrong a
    else .tok ⟨2, s.extract a (a + 3), (s.data.toList.getD (a + 1) 0).toNat, a⟩ (a + 3)
  else if signsL.contains (s.data.toList.getD a 0) = true then .tok ⟨3, s.extract a (a + 1), 0, a⟩ (a + 1)
  else .wrong a
def lexStep (s : ByteArray) (k : Nat) : Step := lexAt s (k + rowN (s.data.toList.drop k) blanksL)
def lexF (s : ByteArray) : Nat → Nat → List Tok → List Tok × Nat × Nat
  | 0, _, acc => (acc, 0, 0)
  | f + 1, k, acc =>
    match lexStep s k with
    | .stop => (acc, 0, 0)
    | .wrong a => ([], a, 20)
    | .tok t k' => lexF s f k' (acc ++ [t])
/-- A text's tokens, or the place of the first wrong byte. -/
def lexS (s : ByteArray) : List Tok × Nat × Nat := lexF s (s.size + 1) 0 []
theorem numL_le (l : List UInt8) : (numL l).1 ≤ l.length ∧ (numL l).2 < 4294967296 := by
  unfold numL
  split
  · rename_i h
    have h2 := congrArg List.length h
    rw [List.length_take] at h2
    simp only [List.length_cons, List.length_nil] at h2
    have h3 := rowN_le (l.drop 2) hexesL
    rw [List.length_drop] at h3
    split
    · simp
    · rename_i h4
      refine ⟨by simp only; omega, ?_⟩
      refine val16_lt (by rw [List.length_take]; omega) (fun i hi => ?_)
      rw [List.length_take] at hi
      rw [getD_take (by omega), ← hexes_is]
      exact rowN_get (by omega)
  · have h3 := rowN_le l digitsL
    split
    · simp
    · rename_i h4
      exact ⟨h3, by simp only; omega⟩
theorem lexF_tok {s : ByteArray} {f k k' : Nat} {acc : List Tok} {t : Tok} (h : lexStep s k = .tok t k') : lexF s (f + 1) k acc = lexF s f k' (acc ++ [t]) := by
  show (match lexStep s k with
    | .stop => (acc, 0, 0)
    | .wrong a => ([], a, 20)
    | .tok t k' => lexF s f k' (acc ++ [t])) = _
  rw [h]
theorem lexF_stop {s : ByteArray} {f k : Nat} {acc : List Tok} (h : lexStep s k = .stop) : lexF s (f + 1) k acc = (acc, 0, 0) := by
  show (match lexStep s k with
    | .stop => (acc, 0, 0)
    | .wrong a => ([], a, 20)
    | .tok t k' => lexF s f k' (acc ++ [t])) = _
  rw [h]
theorem lexF_wrong {s : ByteArray} {f k a : Nat} {acc : List Tok} (h : lexStep s k = .wrong a) : lexF s (f + 1) k acc = ([], a, 20) := by
  show (match lexStep s k with
    | .stop => (acc, 0, 0)
    | .wrong a => ([], a, 20)
    | .tok t k' => lexF s f k' (acc ++ [t])) = _
  rw [h]
/-- Where a token stands, and how far it reaches. -/
theorem lexAt_tok {s : ByteArray} {a k' : Nat} {t : Tok} (ha : a ≤ s.size) (h : lexAt s a = .tok t k') : a < k' ∧ k' ≤ s.size ∧ t.at_ = a ∧ t.text = s.extract a k' := by
  have hsz : s.data.toList.length = s.size := by simp
  unfold lexAt at h
  split at h
  · cases h
  split at h
  · cases h
  have hlen : (s.data.toList.drop a).length = s.size - a := by rw [List.length_drop, hsz]
  split at h
  · rename_i h1 h2 h3
    split at h
    · cases h
    · cases h
      have h5 := rowN_le (s.data.toList.drop a) gluedL
      have h6 := (rowN_pos (s := s.data.toList.drop a) (set := gluedL) (by omega)).2 (by
        rw [show (s.data.toList.drop a).getD 0 0 = s.data.toList.getD a 0 from by simp [List.getD]]
        show (lettersL ++ digitsL).contains _ = true
        rw [glued_is, h3]; rfl)
      exact ⟨by omega, by omega, rfl, rfl⟩
  split at h
  · split at h
    · cases h
    · cases h
      have h5 := (numL_le (s.data.toList.drop a)).1
      exact ⟨by omega, by omega, rfl, rfl⟩
  split at h
  · split at h
    · cases h
    · cases h
      exact ⟨by omega, by omega, rfl, rfl⟩
  split at h
  · cases h
    exact ⟨by omega, by omega, rfl, rfl⟩
  · cases h
end Go.Sx
