/- row, Register, Legal, Clone and strconv's errors, over heaps. Condition: a text has at most maxLen bytes. -/
import Derived.Test.YtpbjlnlekobodaaDoorLexT
import Derived.Test.YtpbjlnlekobodaaDoorSxL
import Derived.Test.YtpbjlnlekobodaaDoorLexU
import Derived.Test.YtpbjlnlekobodaaDoorSxU
set_option linter.unusedVariables false
set_option linter.unusedSimpArgs false
set_option linter.deprecated false
set_option maxRecDepth 100000
namespace Go.Sx
open Go.Proofs

theorem mixed : Tryd.prog.follows .mixedOrders = true := by kernel_rfl
theorem nm106 : (Tryd.f106.name == "runtime.NumGoroutine") = false := by kernel_rfl
theorem nb106 : Tryd.f106.body.isNone = true := by kernel_rfl
theorem en106 : Extern.findNext Tryd.f106 = none := by kernel_rfl
theorem ef106 : Extern.find Tryd.f106 = some Extern.BytealgIndexByte.indexByte := by kernel_rfl
theorem indexByte0_hc (s : ByteArray) (c : Int) (h : Hp) : HCp Tryd.prog 91 [.string s, .int .u8 c] h (.int .i64 (Lib.indexByte s.data.toList c.toNat.toUInt8)) := by
  refine hcp_of mixed Tryd.func91 (by kernel_rfl) (t_internal_stringslite_IndexByte_eq s c) ?_
  refine semW_ext Tryd.func106 nm106 nb106 en106 ef106 ?_
  rw [semW_indexByte]
  exact ⟨(_, ()), rfl, rfl, rfl⟩
theorem indexByte_hc (s : ByteArray) (c : Int) (h : Hp) : HCp Tryd.prog 66 [.string s, .int .u8 c] h (.int .i64 (Lib.indexByte s.data.toList c.toNat.toUInt8)) := by
  refine hcp_of mixed Tryd.func66 (by kernel_rfl) (t_strings_IndexByte_eq s c) ?_
  exact call_int (indexByte0_hc s c h) ⟨rfl, rfl⟩

/-- How many bytes of a set a text begins with. -/
def rowN (s set : List UInt8) : Nat := (s.takeWhile fun c => set.contains c).length
theorem rowN_le (s set : List UInt8) : rowN s set ≤ s.length := by
  unfold rowN
  exact (List.takeWhile_prefix _).length_le
theorem takeWhile_step {p : UInt8 → Bool} : ∀ (l : List UInt8) (k : Nat), k ≤ (l.takeWhile p).length → k < l.length → (k < (l.takeWhile p).length ↔ p (l.getD k 0) = true)
  | [], k, _, h => by simp at h
  | c :: l, 0, _, _ => by
    simp only [List.takeWhile_cons, List.getD_cons_zero]
    cases hp : p c <;> simp
  | c :: l, k + 1, h, hl => by
    simp only [List.takeWhile_cons] at h ⊢
    cases hp : p c with
    | false => rw [hp] at h; simp at h
    | true =>
      rw [hp] at h
      simp at h hl
      have := takeWhile_step l k (by simpa using h) hl
      simpa using this
theorem rowN_step (s set : List UInt8) (k : Nat) (hk : k ≤ rowN s set) (hl : k < s.length) : (k < rowN s set ↔ set.contains (s.getD k 0) = true) := takeWhile_step s k hk hl
theorem sbyte_u8 (s : ByteArray) (n : Int) : (sbyte s n).toNat.toUInt8 = s.data.toList.getD n.toNat 0 := by
  unfold sbyte; simp
theorem row_hc (s set : ByteArray) (h : Hp) (hs : s.size ≤ 9223372036854775807) : HCp Tryd.prog 65 [.string s, .string set] h (.int .i64 (rowN s.data.toList set.data.toList)) := by
  refine hcp_of mixed Tryd.func65 (by kernel_rfl) (t_lex_row_eq s set) ?_
  have hsz : s.data.toList.length = s.size := by simp
  have hle := rowN_le s.data.toList set.data.toList
  refine loop_of (cs := [(false, [.int .i64])]) (fun x n h' => h' = h ∧ ∃ k : Nat, x.1 = (k : Int) ∧ k ≤ rowN s.data.toList set.data.toList ∧ n = s.size - k) ((0 : Int), ()) s.size rfl ⟨rfl, 0, rfl, by omega, by omega⟩ ?_
  rintro ⟨n, ⟨⟩⟩ m h' ⟨rfl, k, hk, hle', rfl⟩
  simp only at hk
  subst hk
  refine cond_mk (fun hb => ?_) (fun hb => ?_)
  · have hlt : (k : Int) < s.size := of_decide_eq_true hb
    have hst := rowN_step s.data.toList set.data.toList k hle' (by omega)
    refine need_of ⟨by omega, hlt⟩ ?_
    refine call_int (indexByte_hc _ _ _) ?_
    rw [sbyte_u8]
    have hc := Lib.contains_iff_indexByte set.data.toList (s.data.toList.getD k 0)
    refine cond_mk (fun hb2 => ?_) (fun hb2 => ?_)
    · have h2 := of_decide_eq_true hb2
      rw [wrap_i64 (by omega) (by omega)]
      have hin : set.data.toList.contains (s.data.toList.getD k 0) = true := by rw [hc]; exact decide_eq_true h2
      exact again_mk (cs := [(false, [.int .i64])]) ((k : Int) + 1, ()) (s.size - (k + 1)) rfl (by omega) rfl ⟨rfl, k + 1, (show ((k : Int) + 1) = ((k + 1 : Nat) : Int) from by omega), hst.2 hin, rfl⟩
    · have h2 := of_decide_eq_false hb2
      have hin : ¬ set.data.toList.contains (s.data.toList.getD k 0) = true := by rw [hc]; exact fun hh => h2 (of_decide_eq_true hh)
      have : k = rowN s.data.toList set.data.toList := by
        have : ¬ k < rowN s.data.toList set.data.toList := fun hh => hin (hst.1 hh)
        omega
      exact ⟨by rw [← this], rfl⟩
  · have hge : ¬ (k : Int) < s.size := of_decide_eq_false hb
    have : k = rowN s.data.toList set.data.toList := by omega
    exact ⟨by rw [← this], rfl⟩
/-! Bytes: letters and digits. -/
def isLet (c : UInt8) : Bool := (97 ≤ c.toNat && c.toNat ≤ 122) || (65 ≤ c.toNat && c.toNat ≤ 90) || c.toNat == 95
def isDig (c : UInt8) : Bool := 48 ≤ c.toNat && c.toNat ≤ 57
def lettersL : List UInt8 := [97, 98, 99, 100, 101, 102, 103, 104, 105, 106, 107, 108, 109, 110, 111, 112, 113, 114, 115, 116, 117, 118, 119, 120, 121, 122, 65, 66, 67, 68, 69, 70, 71, 72, 73, 74, 75, 76, 77, 78, 79, 80, 81, 82, 83, 84, 85, 86, 87, 88, 89, 90, 95]
def digitsL : List UInt8 := [48, 49, 50, 51, 52, 53, 54, 55, 56, 57]
theorem all_bytes (p q : UInt8 → Bool) (h : (List.range 256).all (fun n => p (UInt8.ofNat n) == q (UInt8.ofNat n)) = true) (c : UInt8) : p c = q c := by
  have := List.all_eq_true.1 h c.toNat (List.mem_range.2 (by have := c.toNat_lt; omega))
  simpa using this
theorem letters_is (c : UInt8) : lettersL.contains c = isLet c := all_bytes (fun c => lettersL.contains c) isLet (by decide +kernel) c
theorem digits_is (c : UInt8) : digitsL.contains c = isDig c := all_bytes (fun c => digitsL.contains c) isDig (by decide +kernel) c
theorem glued_is (c : UInt8) : (lettersL ++ digitsL).contains c = (isLet c || isDig c) := all_bytes (fun c => (lettersL ++ digitsL).contains c) (fun c => isLet c || isDig c) (by decide +kernel) c
def cN (c : UInt8) : Int := (c.toNat : Nat)
theorem digit_hc (c : UInt8) (h : Hp) : HCp Tryd.prog 69 [.int .u8 (cN c)] h (.bool (isDig c)) := by
  refine hcp_of mixed Tryd.func69 (by kernel_rfl) (t_spandrelref2_Digit_eq _) ?_
  unfold t_spandrelref2_Digit isDig cN
  refine cond_mk (fun h1 => ?_) (fun h1 => ?_)
  · have h1 := of_decide_eq_true h1
    refine ⟨?_, rfl⟩
    congr 1
    rw [show decide (48 ≤ c.toNat) = true from decide_eq_true (by omega), Bool.true_and]
    exact decide_eq_decide.2 (by omega)
  · have h1 := of_decide_eq_false h1
    refine ⟨?_, rfl⟩
    congr 1
    rw [show decide (48 ≤ c.toNat) = false from decide_eq_false (by omega), Bool.false_and]

theorem isLet_iff (c : UInt8) : isLet c = true ↔ (97 ≤ cN c ∧ cN c ≤ 122) ∨ (65 ≤ cN c ∧ cN c ≤ 90) ∨ cN c = 95 := by
  unfold isLet cN
  simp only [Bool.or_eq_true, Bool.and_eq_true, decide_eq_true_eq, beq_iff_eq]
  omega
theorem isDig_iff (c : UInt8) : isDig c = true ↔ 48 ≤ cN c ∧ cN c ≤ 57 := by
  unfold isDig cN
  simp only [Bool.and_eq_true, decide_eq_true_eq]
  omega
theorem letter_hc (c : UInt8) (h : Hp) : HCp Tryd.prog 68 [.int .u8 (cN c)] h (.bool (isLet c)) := by
  refine hcp_of mixed Tryd.func68 (by kernel_rfl) (t_spandrelref2_Letter_eq _) ?_
  unfold t_spandrelref2_Letter
  have hl := isLet_iff c
  repeat' (refine cond_mk (fun h1 => ?_) (fun h1 => ?_) <;> first | replace h1 := of_decide_eq_true h1 | replace h1 := of_decide_eq_false h1)
  all_goals exact ⟨congrArg Value.bool (Bool.eq_iff_iff.2 (by simp only [hl, true_iff, beq_iff_eq]; omega)), rfl⟩
theorem few_hc (s : ByteArray) (n : Int) (h : Hp) (hn : 0 ≤ n) : HCp Tryd.prog 20 [.string s, .int .i64 n] h (.string (s.extract 0 (min n.toNat s.size))) := by
  refine hcp_of mixed Tryd.func20 (by kernel_rfl) (t_spandrellaw2_few_eq s n) ?_
  refine cond_mk (fun h1 => ?_) (fun h1 => ?_)
  · have h1 := of_decide_eq_true h1
    refine need_of ⟨by omega, hn, by omega⟩ ⟨?_, rfl⟩
    congr 1
    rw [Nat.min_eq_left (by omega)]
  · have h1 := of_decide_eq_false h1
    refine ⟨?_, rfl⟩
    congr 1
    rw [Nat.min_eq_right (by omega)]
    simp
/-- A register's number, whether it is a z, whether it is one. -/
def regL (s : List UInt8) : Int × Bool × Bool :=
  match s with
  | [a, b] => if cN a = 114 ∧ 48 ≤ cN b ∧ cN b ≤ 55 then (cN b - 48, false, true) else if cN a = 122 ∧ 48 ≤ cN b ∧ cN b ≤ 51 then (cN b - 48, true, true) else (0, false, false)
  | _ => (0, false, false)
theorem regL_len {s : List UInt8} (h : s.length ≠ 2) : regL s = (0, false, false) := by
  unfold regL
  split
  · simp at h
  · rfl
theorem sbyte_cN (s : ByteArray) (n : Int) : sbyte s n = cN (s.data.toList.getD n.toNat 0) := rfl
theorem two_bytes {s : ByteArray} (h1 : (s.size : Int) = 2) : ∃ a b, s.data.toList = [a, b] := by
  have hsz : s.data.toList.length = s.size := by simp
  match hl : s.data.toList with
  | [a, b] => exact ⟨a, b, rfl⟩
  | [] => rw [hl] at hsz; simp at hsz; omega
  | [a] => rw [hl] at hsz; simp at hsz; omega
  | a :: b :: c :: l => rw [hl] at hsz; simp at hsz; omega
theorem register_hc (s : ByteArray) (h : Hp) : HCp Tryd.prog 29 [.string s] h (.tuple #[.int .i64 (regL s.data.toList).1, .bool (regL s.data.toList).2.1, .bool (regL s.data.toList).2.2]) := by
  refine hcp_of mixed Tryd.func29 (by kernel_rfl) (t_lex_Register_eq s) ?_
  have hsz : s.data.toList.length = s.size := by simp
  unfold t_lex_Register
  refine cond_mk (fun h1 => ?_) (fun h1 => ?_)
  · have h1 : (s.size : Int) ≠ 2 := by simpa using h1
    rw [regL_len (by omega)]
    exact ⟨rfl, rfl⟩
  · have h1 : (s.size : Int) = 2 := by simpa using h1
    obtain ⟨a, b, hab⟩ := two_bytes h1
    have e0 : sbyte s 0 = cN a := by rw [sbyte_cN, hab]; rfl
    have e1 : sbyte s 1 = cN b := by rw [sbyte_cN, hab]; rfl
    have hb := b.toNat_lt
    have w1 : IntKind.wrap .i64 (IntKind.wrap .i64 (sbyte s 1) - 48) = cN b - 48 := by
      rw [e1, wrap_i64 (x := cN b) (by unfold cN; omega) (by unfold cN; omega), wrap_i64 (by unfold cN; omega) (by unfold cN; omega)]
    rw [w1, e0, hab]
    unfold regL
    repeat' (first | refine need_of ⟨by omega, by omega⟩ ?_ | (refine cond_mk (fun h1 => ?_) (fun h1 => ?_) <;> first | replace h1 := of_decide_eq_true h1 | replace h1 := of_decide_eq_false h1 | replace h1 := eq_of_beq h1 | replace h1 := ne_of_beq_false h1))
    all_goals
      refine ⟨?_, rfl⟩
      simp only
      first
        | (exfalso; omega)
        | rw [if_pos (by omega)]
        | rw [if_neg (by omega), if_pos (by omega)]
        | rw [if_neg (by omega), if_neg (by omega)]
theorem register2_hc (s : ByteArray) (h : Hp) : HCp Tryd.prog 31 [.string s] h (.tuple #[.int .i64 (regL s.data.toList).1, .bool (regL s.data.toList).2.1, .bool (regL s.data.toList).2.2]) := by
  refine hcp_of mixed Tryd.func31 (by kernel_rfl) (t_spandrelref2_Register_eq s) ?_
  have hsz : s.data.toList.length = s.size := by simp
  unfold t_spandrelref2_Register
  refine cond_mk (fun h1 => ?_) (fun h1 => ?_)
  · have h1 : (s.size : Int) ≠ 2 := by simpa using h1
    rw [regL_len (by omega)]
    exact ⟨rfl, rfl⟩
  · have h1 : (s.size : Int) = 2 := by simpa using h1
    obtain ⟨a, b, hab⟩ := two_bytes h1
    have e0 : sbyte s 0 = cN a := by rw [sbyte_cN, hab]; rfl
    have e1 : sbyte s 1 = cN b := by rw [sbyte_cN, hab]; rfl
    have hb := b.toNat_lt
    have w1 : IntKind.wrap .i64 (IntKind.wrap .i64 (sbyte s 1) - 48) = cN b - 48 := by
      rw [e1, wrap_i64 (x := cN b) (by unfold cN; omega) (by unfold cN; omega), wrap_i64 (by unfold cN; omega) (by unfold cN; omega)]
    rw [w1, e0, hab]
    unfold regL
    repeat' (first | refine need_of ⟨by omega, by omega⟩ ?_ | (refine cond_mk (fun h1 => ?_) (fun h1 => ?_) <;> first | replace h1 := of_decide_eq_true h1 | replace h1 := of_decide_eq_false h1 | replace h1 := eq_of_beq h1 | replace h1 := ne_of_beq_false h1))
    all_goals
      refine ⟨?_, rfl⟩
      simp only
      first
        | (exfalso; omega)
        | rw [if_pos (by omega)]
        | rw [if_neg (by omega), if_pos (by omega)]
        | rw [if_neg (by omega), if_neg (by omega)]
/-- Is a text a name, and no register? -/
def legalL (s : List UInt8) : Bool := decide (0 < s.length) && decide (s.length ≤ 32) && isLet (s.getD 0 0) && s.all (fun c => isLet c || isDig c) && !(regL s).2.2
theorem rowN_pos {s set : List UInt8} (h : 0 < s.length) : 0 < rowN s set ↔ set.contains (s.getD 0 0) = true := rowN_step s set 0 (Nat.zero_le _) h
theorem rowN_all {s set : List UInt8} : rowN s set = s.length ↔ s.all (fun c => set.contains c) = true := by
  unfold rowN
  induction s with
  | nil => simp
  | cons c s ih =>
    rw [List.takeWhile_cons, List.all_cons]
    cases hc : set.contains c with
    | true => simp only [if_true, List.length_cons, Bool.true_and]; rw [← ih]; omega
    | false => simp
theorem lset : (⟨#[97, 98, 99, 100, 101, 102, 103, 104, 105, 106, 107, 108, 109, 110, 111, 112, 113, 114, 115, 116, 117, 118, 119, 120, 121, 122, 65, 66, 67, 68, 69, 70, 71, 72, 73, 74, 75, 76, 77, 78, 79, 80, 81, 82, 83, 84, 85, 86, 87, 88, 89, 90, 95]⟩ : ByteArray).data.toList = lettersL := rfl
theorem gset : (⟨#[97, 98, 99, 100, 101, 102, 103, 104, 105, 106, 107, 108, 109, 110, 111, 112, 113, 114, 115, 116, 117, 118, 119, 120, 121, 122, 65, 66, 67, 68, 69, 70, 71, 72, 73, 74, 75, 76, 77, 78, 79, 80, 81, 82, 83, 84, 85, 86, 87, 88, 89, 90, 95, 48, 49, 50, 51, 52, 53, 54, 55, 56, 57]⟩ : ByteArray).data.toList = lettersL ++ digitsL := rfl
theorem toList_nil {s : ByteArray} : (s.toList == []) = decide (s.size = 0) := by
  have : s.toList = s.data.toList := ByteArray.toList_eq s
  rw [this]
  have hsz : s.data.toList.length = s.size := by simp
  cases hl : s.data.toList with
  | nil => rw [hl] at hsz; simp at hsz; simp [← hsz]
  | cons a l => rw [hl] at hsz; simp at hsz; simp [← hsz]
theorem legal_hc (s : ByteArray) (h : Hp) (hs : s.size ≤ 9223372036854775807) : HCp Tryd.prog 30 [.string s] h (.bool (legalL s.data.toList)) := by
  refine hcp_of mixed Tryd.func30 (by kernel_rfl) (t_lex_Legal_eq s) ?_
  have hsz : s.data.toList.length = s.size := by simp
  unfold t_lex_Legal
  refine call_ibb (register_hc s h) ?_
  unfold legalL
  rw [hsz]
  refine cond_mk (fun h1 => ?_) (fun h1 => ?_)
  · have h1 : s.size ≠ 0 := by rw [toList_nil] at h1; simpa using h1
    refine cond_mk (fun h2 => ?_) (fun h2 => ?_)
    · have h2 := of_decide_eq_true h2
      refine call_int (row_hc s _ h hs) ?_
      rw [lset]
      have hp := rowN_pos (set := lettersL) (by omega : 0 < s.data.toList.length)
      rw [letters_is] at hp
      refine cond_mk (fun h3 => ?_) (fun h3 => ?_)
      · have h3 := of_decide_eq_true h3
        refine call_int (row_hc s _ h hs) ?_
        rw [gset]
        have ha := rowN_all (s := s.data.toList) (set := lettersL ++ digitsL)
        have hg : (fun c => (lettersL ++ digitsL).contains c) = (fun c => isLet c || isDig c) := funext glued_is
        rw [hg] at ha
        rw [show decide (0 < s.size) = true from decide_eq_true (by omega), show decide (s.size ≤ 32) = true from decide_eq_true (by omega), hp.1 (by omega)]
        refine cond_mk (fun h4 => ?_) (fun h4 => ?_)
        · have h4 := eq_of_beq h4
          rw [ha.1 (by omega)]
          exact ⟨rfl, rfl⟩
        · have h4 := ne_of_beq_false h4
          have : s.data.toList.all (fun c => isLet c || isDig c) = false := by
            cases hx : s.data.toList.all (fun c => isLet c || isDig c) with
            | false => rfl
            | true => exact (h4 (by rw [ha.2 hx]; omega)).elim
          rw [this]
          exact ⟨rfl, rfl⟩
      · have h3 := of_decide_eq_false h3
        have : isLet (s.data.toList.getD 0 0) = false := by
          cases hx : isLet (s.data.toList.getD 0 0) with
          | false => rfl
          | true => have := hp.2 hx; omega
        rw [this]
        exact ⟨by simp, rfl⟩
    · have h2 := of_decide_eq_false h2
      rw [show decide (s.size ≤ 32) = false from decide_eq_false (by omega)]
      exact ⟨by simp, rfl⟩
  · have h1 : s.size = 0 := by rw [toList_nil] at h1; simpa using h1
    rw [show decide (0 < s.size) = false from decide_eq_false (by omega)]
    exact ⟨by simp, rfl⟩
end Go.Sx

set_option linter.unusedVariables false
set_option maxRecDepth 100000
namespace Go.Sx
open Go.Proofs
theorem all_step (p : UInt8 → Bool) (l : List UInt8) (k : Nat) (hk : k < l.length) : (l.take (k + 1)).all p = ((l.take k).all p && p (l.getD k 0)) := by
  rw [List.take_succ_eq_append_getElem hk, List.all_append]
  simp [List.getD, List.getElem?_eq_getElem hk]
theorem legal2_hc (s : ByteArray) (h : Hp) (hs : s.size ≤ 9223372036854775807) : HCp Tryd.prog 32 [.string s] h (.bool (legalL s.data.toList)) := by
  refine hcp_of mixed Tryd.func32 (by kernel_rfl) (t_spandrelref2_Legal_eq s) ?_
  have hsz : s.data.toList.length = s.size := by simp
  unfold t_spandrelref2_Legal
  unfold legalL
  rw [hsz]
  refine cond_mk (fun h1 => ?_) (fun h1 => ?_)
  · have h1 := of_decide_eq_true h1
    rw [show decide (0 < s.size) = false from decide_eq_false (by omega)]
    exact ⟨by simp, rfl⟩
  have h1 := of_decide_eq_false h1
  refine cond_mk (fun h2 => ?_) (fun h2 => ?_)
  · have h2 := of_decide_eq_true h2
    rw [show decide (s.size ≤ 32) = false from decide_eq_false (by omega)]
    exact ⟨by simp, rfl⟩
  have h2 := of_decide_eq_false h2
  rw [show decide (0 < s.size) = true from decide_eq_true (by omega), show decide (s.size ≤ 32) = true from decide_eq_true (by omega)]
  refine need_of ⟨by omega, by omega⟩ ?_
  refine call_bool (letter_hc (s.data.toList.getD 0 0) h) ?_
  refine cond_mk (fun h3 => ?_) (fun h3 => ?_)
  · have h3 : isLet (s.data.toList.getD 0 0) = false := by simpa using h3
    rw [h3]
    exact ⟨by simp, rfl⟩
  have h3 : isLet (s.data.toList.getD 0 0) = true := by simpa using h3
  rw [h3]
  refine loop_of (cs := [(false, [.bool]), (false, [.int .i64])]) (fun x n h' => h' = h ∧ ∃ k : Nat, x.2.1 = (k : Int) ∧ k ≤ s.size ∧ n = s.size - k ∧ (s.data.toList.take k).all (fun c => isLet c || isDig c) = true)
    (false, (0 : Int), ()) s.size rfl ⟨rfl, 0, rfl, by omega, by omega, by simp⟩ ?_
  rintro ⟨b, n, ⟨⟩⟩ m h' ⟨rfl, k, hk, hle, rfl, hall⟩
  simp only at hk
  subst hk
  refine cond_mk (fun hb => ?_) (fun hb => ?_)
  · have hlt : (k : Int) < s.size := of_decide_eq_true hb
    have hst := all_step (fun c => isLet c || isDig c) s.data.toList k (by omega)
    rw [hall, Bool.true_and] at hst
    have hfalse : ∀ k' : Nat, (isLet (s.data.toList.getD k 0) || isDig (s.data.toList.getD k 0)) = false → s.data.toList.all (fun c => isLet c || isDig c) = false := by
      intro k' hf
      rw [hf] at hst
      cases hx : s.data.toList.all (fun c => isLet c || isDig c) with
      | false => rfl
      | true =>
        have : (s.data.toList.take (k + 1)).all (fun c => isLet c || isDig c) = true := List.all_eq_true.2 fun c hc => List.all_eq_true.1 hx c (List.mem_of_mem_take hc)
        rw [this] at hst; cases hst
    have hnext : (isLet (s.data.toList.getD k 0) || isDig (s.data.toList.getD k 0)) = true → T.again 0 [.bool b, .int .i64 (IntKind.wrap .i64 ((k : Int) + 1))] ([] ++ [Jl (cs := [(false, [.bool]), (false, [.int .i64])]) (fun x n h'' => h'' = h' ∧ ∃ k : Nat, x.2.1 = (k : Int) ∧ k ≤ s.size ∧ n = s.size - k ∧ (s.data.toList.take k).all (fun c => isLet c || isDig c) = true) (s.size - k)]) (fun v' h'' => v' = .bool (true && true && true && s.data.toList.all (fun c => isLet c || isDig c) && !(regL s.data.toList).2.2) ∧ h'' = h') h' := by
      intro ht
      rw [wrap_i64 (by omega) (by omega)]
      exact again_mk (cs := [(false, [.bool]), (false, [.int .i64])]) (b, (k : Int) + 1, ()) (s.size - (k + 1)) rfl (by omega) rfl ⟨rfl, k + 1, (show ((k : Int) + 1) = ((k + 1 : Nat) : Int) from by omega), by omega, rfl, by rw [hst, ht]⟩
    refine need_of ⟨(by show (0:Int) ≤ (k:Int); omega), hlt⟩ ?_
    refine call_bool (letter_hc (s.data.toList.getD k 0) h') ?_
    refine cond_mk (fun h4 => ?_) (fun h4 => ?_)
    · have h4 : isLet (s.data.toList.getD k 0) = false := by simpa using h4
      refine need_of ⟨(by show (0:Int) ≤ (k:Int); omega), hlt⟩ ?_
      refine call_bool (digit_hc (s.data.toList.getD k 0) h') ?_
      refine cond_mk (fun h5 => ?_) (fun h5 => ?_)
      · have h5 : isDig (s.data.toList.getD k 0) = false := by simpa using h5
        rw [hfalse 0 (by rw [h4, h5]; rfl)]
        exact ⟨by simp, rfl⟩
      · have h5 : isDig (s.data.toList.getD k 0) = true := by simpa using h5
        exact hnext (by rw [h5]; simp)
    · have h4 : isLet (s.data.toList.getD k 0) = true := by simpa using h4
      exact hnext (by rw [h4]; simp)
  · have hge : ¬ (k : Int) < s.size := of_decide_eq_false hb
    have hk : k = s.data.toList.length := by omega
    rw [hk, List.take_length] at hall
    rw [hall]
    refine call_ibb (register2_hc s h') ?_
    exact ⟨by simp, rfl⟩
end Go.Sx

set_option linter.unusedVariables false
set_option maxRecDepth 100000
namespace Go.Sx
open Go.Proofs
theorem clone_hc (s : ByteArray) (h : Hp) (hs : s.size ≤ 2 ^ 48) : HC Tryd.prog 140 #[.string s] h fun v h' => v = .string s ∧ Ext h h' := by
  refine hcr_of (args := [.string s]) mixed Tryd.func140 (by kernel_rfl) (t_internal_stringslite_Clone_eq s) ?_
  unfold t_internal_stringslite_Clone
  have hsz : s.data.toList.length = s.size := by simp
  refine cond_mk (fun h1 => ?_) (fun h1 => ?_)
  · have h1 := eq_of_beq h1
    have : s = ⟨#[]⟩ := by
      apply ByteArray.ext
      exact Array.eq_empty_of_size_eq_zero (by have : s.data.size = s.size := rfl; omega)
    rw [this]
    exact ⟨rfl, Ch.refl _ _⟩
  · have h1 := ne_of_beq_false h1
    obtain ⟨i5, hi5, hz5, hs5, hb5⟩ : _ := inf_of (P := Tryd.prog) (t := 5) (z := .int .u8 0) (s := 1) (b := 1) (by kernel_rfl)
    refine sem_slice ?_
    refine makeSlice_of (e := 5) (by kernel_rfl) hi5 hz5 (Nat.le_refl _) (by rw [hb5]; omega) (by omega) ?_
    intro h1' b1 e1 z1
    refine ⟨_, _, _, rfl, ?_⟩
    show T.sem Tryd.prog (Builtin.copy_ #[142, 9] 3 #[.slice (some ⟨h.size, 0, none⟩) s.size s.size, .string s]) false [(false, [.int .i64])] _ [] _ h1'
    refine copyStr_of (e := 5) (by kernel_rfl) hi5 b1 rfl (by simp [hs5]) ?_
    intro h2 b2 c2 z2
    refine ⟨(_, ()), rfl, ?_⟩
    refine need_of ⟨by omega, by omega⟩ (osome_mk rfl ?_)
    have hl : setL ((List.range (s.size * i5.size)).map ((Value.int IntKind.u8 0).cells[· % (Value.int IntKind.u8 0).cells.size]!)) 0 (s.data.toList.map byteV) = s.data.toList.map byteV := by
      rw [setL_eq _ _ _ (by simp [hs5])]
      rw [List.take_zero, List.nil_append, List.drop_of_length_le (by simp [hs5]), List.append_nil]
    rw [hl] at b2
    have hne : s.data.toList ≠ [] := by
      intro hn; rw [hn] at hsz; simp at hsz; omega
    have h63 : s.size ≤ 9223372036854775807 := by omega
    rw [← hsz]
    refine unsafeString_of (e := 5) (by kernel_rfl) (by kernel_rfl) b2 s.data.toList hne (by simp) (by omega) (fun i hi => ?_) ?_
    · rw [b2.cell, List.getElem?_map, List.getElem?_eq_getElem hi]; rfl
    · intro h3 f' hg3 c3 z3
      refine ⟨(_, ()), rfl, ?_⟩
      refine ⟨?_, ?_⟩
      · congr 1
      · have hv : ∀ i, i ∈ [h.size] → i < h.size → i ∈ ([] : List Nat) := by
          intro i hi hlt; simp at hi; omega
        exact Ch.trans (Ch.trans e1 c2 hv) c3 hv
/-- What the laid variables must hold. -/
structure Laid (h : Hp) : Prop where
  syn : ∃ v, hcell h ⟨2, 0, none⟩ = some v ∧ isAggV v = false
  rng : ∃ v, hcell h ⟨3, 0, none⟩ = some v ∧ isAggV v = false
theorem Laid.ext {h h' : Hp} (l : Laid h) (e : Ext h h') : Laid h' := by
  obtain ⟨v, h1, h2⟩ := l.syn
  obtain ⟨u, h3, h4⟩ := l.rng
  exact ⟨⟨v, hcell_keep h1 e (by simp), h2⟩, ⟨u, hcell_keep h3 e (by simp), h4⟩⟩
theorem syntaxError_hc (fn s : ByteArray) (h : Hp) (hs : s.size ≤ 2 ^ 48) (hl : Laid h) : HC Tryd.prog 123 #[.string fn, .string s] h fun v h' => (∃ a, v = .pointer (some a)) ∧ Ext h h' := by
  refine hcr_of (args := [.string fn, .string s]) mixed Tryd.func123 (by kernel_rfl) (t_strconv_syntaxError_eq fn s) ?_
  unfold t_strconv_syntaxError
  obtain ⟨v, hv, hva⟩ := hl.syn
  refine loads_of (v, ()) ⟨hv, trivial⟩ ?_
  refine call_of (clone_hc s h hs) ?_
  rintro _ h1 ⟨rfl, e1⟩
  refine ⟨(s, ()), rfl, ?_⟩
  refine ⟨⟨⟨hcell_keep hv e1 (by simp), trivial⟩, trivial⟩, ?_⟩
  refine cond_f hva ?_
  refine newB ?_
  intro h2 b2 e2 z2
  exact ⟨⟨⟨hcell_keep (hcell_keep hv e1 (by simp)) e2 (by simp), trivial⟩, trivial⟩, ⟨_, rfl⟩, e1.trans e2⟩
theorem rangeError_hc (fn s : ByteArray) (h : Hp) (hs : s.size ≤ 2 ^ 48) (hl : Laid h) : HC Tryd.prog 124 #[.string fn, .string s] h fun v h' => (∃ a, v = .pointer (some a)) ∧ Ext h h' := by
  refine hcr_of (args := [.string fn, .string s]) mixed Tryd.func124 (by kernel_rfl) (t_strconv_rangeError_eq fn s) ?_
  unfold t_strconv_rangeError
  obtain ⟨v, hv, hva⟩ := hl.rng
  refine loads_of (v, ()) ⟨hv, trivial⟩ ?_
  refine call_of (clone_hc s h hs) ?_
  rintro _ h1 ⟨rfl, e1⟩
  refine ⟨(s, ()), rfl, ?_⟩
  refine ⟨⟨⟨hcell_keep hv e1 (by simp), trivial⟩, trivial⟩, ?_⟩
  refine cond_f hva ?_
  refine newB ?_
  intro h2 b2 e2 z2
  exact ⟨⟨⟨hcell_keep (hcell_keep hv e1 (by simp)) e2 (by simp), trivial⟩, trivial⟩, ⟨_, rfl⟩, e1.trans e2⟩
theorem cmp22 (h : Hp) (K : Value → Hp → Prop) : semW Tryd.prog (cmpS .eql 133 (.tmp 11) (.tmp 13) (.iface 157 (.int .i64 2)) (.iface 157 (.int .i64 2))) h K = K (.bool true) h := by kernel_rfl
theorem cmp12 (h : Hp) (K : Value → Hp → Prop) : semW Tryd.prog (cmpS .eql 133 (.tmp 11) (.tmp 13) (.iface 157 (.int .i64 1)) (.iface 157 (.int .i64 2))) h K = K (.bool false) h := by kernel_rfl
theorem cmp11 (h : Hp) (K : Value → Hp → Prop) : semW Tryd.prog (cmpS .eql 133 (.tmp 11) (.tmp 20) (.iface 157 (.int .i64 1)) (.iface 157 (.int .i64 1))) h K = K (.bool true) h := by kernel_rfl
abbrev fnPU : ByteArray := ⟨#[80, 97, 114, 115, 101, 85, 105, 110, 116]⟩
theorem toError_s10_hc (s : ByteArray) (h : Hp) (hs : s.size ≤ 2 ^ 48) (hl : Laid h) : HC Tryd.prog 109 #[.string fnPU, .string s, .int .i64 10, .int .i64 32, .iface 157 (.int .i64 2)] h fun v h' => (∃ a, v = .iface 159 (.pointer (some a))) ∧ Ext h h' := by
  refine hcr_of (args := [.string fnPU, .string s, .int .i64 10, .int .i64 32, .iface 157 (.int .i64 2)]) mixed Tryd.func109 (by kernel_rfl) (t_strconv_toError_s10_eq s) ?_
  unfold t_strconv_toError_s10
  refine sem_bool (b := true) (fun K' hk => by rw [cmp22]; exact hk) ?_
  refine cond_t rfl (call_of (syntaxError_hc _ s h hs hl) ?_)
  rintro _ h1 ⟨⟨a, rfl⟩, e1⟩
  exact ⟨(some a, ()), rfl, ⟨a, rfl⟩, e1⟩
theorem toError_s16_hc (s : ByteArray) (h : Hp) (hs : s.size ≤ 2 ^ 48) (hl : Laid h) : HC Tryd.prog 109 #[.string fnPU, .string s, .int .i64 16, .int .i64 32, .iface 157 (.int .i64 2)] h fun v h' => (∃ a, v = .iface 159 (.pointer (some a))) ∧ Ext h h' := by
  refine hcr_of (args := [.string fnPU, .string s, .int .i64 16, .int .i64 32, .iface 157 (.int .i64 2)]) mixed Tryd.func109 (by kernel_rfl) (t_strconv_toError_s16_eq s) ?_
  unfold t_strconv_toError_s16
  refine sem_bool (b := true) (fun K' hk => by rw [cmp22]; exact hk) ?_
  refine cond_t rfl (call_of (syntaxError_hc _ s h hs hl) ?_)
  rintro _ h1 ⟨⟨a, rfl⟩, e1⟩
  exact ⟨(some a, ()), rfl, ⟨a, rfl⟩, e1⟩
theorem toError_r10_hc (s : ByteArray) (h : Hp) (hs : s.size ≤ 2 ^ 48) (hl : Laid h) : HC Tryd.prog 109 #[.string fnPU, .string s, .int .i64 10, .int .i64 32, .iface 157 (.int .i64 1)] h fun v h' => (∃ a, v = .iface 159 (.pointer (some a))) ∧ Ext h h' := by
  refine hcr_of (args := [.string fnPU, .string s, .int .i64 10, .int .i64 32, .iface 157 (.int .i64 1)]) mixed Tryd.func109 (by kernel_rfl) (t_strconv_toError_r10_eq s) ?_
  unfold t_strconv_toError_r10
  refine sem_bool (b := false) (fun K' hk => by rw [cmp12]; exact hk) (cond_f rfl ?_)
  refine sem_bool (b := true) (fun K' hk => by rw [cmp11]; exact hk) ?_
  refine cond_t rfl (call_of (rangeError_hc _ s h hs hl) ?_)
  rintro _ h1 ⟨⟨a, rfl⟩, e1⟩
  exact ⟨(some a, ()), rfl, ⟨a, rfl⟩, e1⟩
end Go.Sx
