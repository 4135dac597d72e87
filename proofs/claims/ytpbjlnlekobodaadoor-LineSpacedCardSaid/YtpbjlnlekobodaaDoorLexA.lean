/- What row, Register and Legal answer, as contracts over heaps. Condition: a text has at most maxLen bytes. -/
import Derived.Test.YtpbjlnlekobodaaDoorLexT
import Derived.Test.YtpbjlnlekobodaaDoorSxL
set_option linter.unusedVariables false
set_option linter.unusedSimpArgs false
set_option linter.deprecated false
set_option maxRecDepth 100000
namespace Go.Sx
open Go.Proofs

theorem mixed : Tryd.prog.follows .mixedOrders = true := by kernel_rfl
theorem nm106 : (Tryd.f106.name == "runtime.NumGoroutine") = false := by kernel_rfl
theorem nb106 : Tryd.f106.body.isNone = true := by kernel_rfl
theorem en106 : Extern.findNext Tryd.f106 = none := by kernel_rfl
theorem ef106 : Extern.find Tryd.f106 = some Extern.BytealgIndexByte.indexByte := by kernel_rfl
theorem indexByte0_hc (s : ByteArray) (c : Int) (h : Hp) : HCp Tryd.prog 91 [.string s, .int .u8 c] h (.int .i64 (Lib.indexByte s.data.toList c.toNat.toUInt8)) := by
  refine hcp_of mixed Tryd.func91 (by kernel_rfl) (t_internal_stringslite_IndexByte_eq s c) ?_
  refine semW_ext Tryd.func106 nm106 nb106 en106 ef106 ?_
  rw [semW_indexByte]
  exact ⟨(_, ()), rfl, rfl, rfl⟩
theorem indexByte_hc (s : ByteArray) (c : Int) (h : Hp) : HCp Tryd.prog 66 [.string s, .int .u8 c] h (.int .i64 (Lib.indexByte s.data.toList c.toNat.toUInt8)) := by
  refine hcp_of mixed Tryd.func66 (by kernel_rfl) (t_strings_IndexByte_eq s c) ?_
  exact call_int (indexByte0_hc s c h) ⟨rfl, rfl⟩

/-- How many bytes of a set a text begins with. -/
def rowN (s set : List UInt8) : Nat := (s.takeWhile fun c => set.contains c).length
theorem rowN_le (s set : List UInt8) : rowN s set ≤ s.length := by
  unfold rowN
  exact (List.takeWhile_prefix _).length_le
theorem takeWhile_step {p : UInt8 → Bool} : ∀ (l : List UInt8) (k : Nat), k ≤ (l.takeWhile p).length → k < l.length → (k < (l.takeWhile p).length ↔ p (l.getD k 0) = true)
  | [], k, _, h => by simp at h
  | c :: l, 0, _, _ => by
    simp only [List.takeWhile_cons, List.getD_cons_zero]
    cases hp : p c <;> simp
  | c :: l, k + 1, h, hl => by
    simp only [List.takeWhile_cons] at h ⊢
    cases hp : p c with
    | false => rw [hp] at h; simp at h
    | true =>
      rw [hp] at h
      simp at h hl
      have := takeWhile_step l k (by simpa using h) hl
      simpa using this
theorem rowN_step (s set : List UInt8) (k : Nat) (hk : k ≤ rowN s set) (hl : k < s.length) : (k < rowN s set ↔ set.contains (s.getD k 0) = true) := takeWhile_step s k hk hl
theorem sbyte_u8 (s : ByteArray) (n : Int) : (sbyte s n).toNat.toUInt8 = s.data.toList.getD n.toNat 0 := by
  unfold sbyte; simp
theorem row_hc (s set : ByteArray) (h : Hp) (hs : s.size ≤ 9223372036854775807) : HCp Tryd.prog 65 [.string s, .string set] h (.int .i64 (rowN s.data.toList set.data.toList)) := by
  refine hcp_of mixed Tryd.func65 (by kernel_rfl) (t_lex_row_eq s set) ?_
  have hsz : s.data.toList.length = s.size := by simp
  have hle := rowN_le s.data.toList set.data.toList
  refine loop_of (cs := [(false, [.int .i64])]) (fun x n h' => h' = h ∧ ∃ k : Nat, x.1 = (k : Int) ∧ k ≤ rowN s.data.toList set.data.toList ∧ n = s.size - k) ((0 : Int), ()) s.size rfl ⟨rfl, 0, rfl, by omega, by omega⟩ ?_
  rintro ⟨n, ⟨⟩⟩ m h' ⟨rfl, k, hk, hle', rfl⟩
  simp only at hk
  subst hk
  refine cond_mk (fun hb => ?_) (fun hb => ?_)
  · have hlt : (k : Int) < s.size := of_decide_eq_true hb
    have hst := rowN_step s.data.toList set.data.toList k hle' (by omega)
    refine need_of ⟨by omega, hlt⟩ ?_
    refine call_int (indexByte_hc _ _ _) ?_
    rw [sbyte_u8]
    have hc := Lib.contains_iff_indexByte set.data.toList (s.data.toList.getD k 0)
    refine cond_mk (fun hb2 => ?_) (fun hb2 => ?_)
    · have h2 := of_decide_eq_true hb2
      rw [wrap_i64 (by omega) (by omega)]
      have hin : set.data.toList.contains (s.data.toList.getD k 0) = true := by rw [hc]; exact decide_eq_true h2
      exact again_mk (cs := [(false, [.int .i64])]) ((k : Int) + 1, ()) (s.size - (k + 1)) rfl (by omega) rfl ⟨rfl, k + 1, (show ((k : Int) + 1) = ((k + 1 : Nat) : Int) from by omega), hst.2 hin, rfl⟩
    · have h2 := of_decide_eq_false hb2
      have hin : ¬ set.data.toList.contains (s.data.toList.getD k 0) = true := by rw [hc]; exact fun hh => h2 (of_decide_eq_true hh)
      have : k = rowN s.data.toList set.data.toList := by
        have : ¬ k < rowN s.data.toList set.data.toList := fun hh => hin (hst.1 hh)
        omega
      exact ⟨by rw [← this], rfl⟩
  · have hge : ¬ (k : Int) < s.size := of_decide_eq_false hb
    have : k = rowN s.data.toList set.data.toList := by omega
    exact ⟨by rw [← this], rfl⟩
/-! Bytes: letters and digits. -/
def isLet (c : UInt8) : Bool := (97 ≤ c.toNat && c.toNat ≤ 122) || (65 ≤ c.toNat && c.toNat ≤ 90) || c.toNat == 95
def isDig (c : UInt8) : Bool := 48 ≤ c.toNat && c.toNat ≤ 57
def lettersL : List UInt8 := [97, 98, 99, 100, 101, 102, 103, 104, 105, 106, 107, 108, 109, 110, 111, 112, 113, 114, 115, 116, 117, 118, 119, 120, 121, 122, 65, 66, 67, 68, 69, 70, 71, 72, 73, 74, 75, 76, 77, 78, 79, 80, 81, 82, 83, 84, 85, 86, 87, 88, 89, 90, 95]
def digitsL : List UInt8 := [48, 49, 50, 51, 52, 53, 54, 55, 56, 57]
theorem all_bytes (p q : UInt8 → Bool) (h : (List.range 256).all (fun n => p (UInt8.ofNat n) == q (UInt8.ofNat n)) = true) (c : UInt8) : p c = q c := by
  have := List.all_eq_true.1 h c.toNat (List.mem_range.2 (by have := c.toNat_lt; omega))
  simpa using this
theorem letters_is (c : UInt8) : lettersL.contains c = isLet c := all_bytes (fun c => lettersL.contains c) isLet (by decide +kernel) c
theorem digits_is (c : UInt8) : digitsL.contains c = isDig c := all_bytes (fun c => digitsL.contains c) isDig (by decide +kernel) c
theorem glued_is (c : UInt8) : (lettersL ++ digitsL).contains c = (isLet c || isDig c) := all_bytes (fun c => (lettersL ++ digitsL).contains c) (fun c => isLet c || isDig c) (by decide +kernel) c
def cN (c : UInt8) : Int := (c.toNat : Nat)
theorem digit_hc (c : UInt8) (h : Hp) : HCp Tryd.prog 69 [.int .u8 (cN c)] h (.bool (isDig c)) := by
  refine hcp_of mixed Tryd.func69 (by kernel_rfl) (t_spandrelref2_Digit_eq _) ?_
  unfold t_spandrelref2_Digit isDig cN
  refine cond_mk (fun h1 => ?_) (fun h1 => ?_)
  · have h1 := of_decide_eq_true h1
    refine ⟨?_, rfl⟩
    congr 1
    rw [show decide (48 ≤ c.toNat) = true from decide_eq_true (by omega), Bool.true_and]
    exact decide_eq_decide.2 (by omega)
  · have h1 := of_decide_eq_false h1
    refine ⟨?_, rfl⟩
    congr 1
    rw [show decide (48 ≤ c.toNat) = false from decide_eq_false (by omega), Bool.false_and]

theorem isLet_iff (c : UInt8) : isLet c = true ↔ (97 ≤ cN c ∧ cN c ≤ 122) ∨ (65 ≤ cN c ∧ cN c ≤ 90) ∨ cN c = 95 := by
  unfold isLet cN
  simp only [Bool.or_eq_true, Bool.and_eq_true, decide_eq_true_eq, beq_iff_eq]
  omega
theorem isDig_iff (c : UInt8) : isDig c = true ↔ 48 ≤ cN c ∧ cN c ≤ 57 := by
  unfold isDig cN
  simp only [Bool.and_eq_true, decide_eq_true_eq]
  omega
theorem letter_hc (c : UInt8) (h : Hp) : HCp Tryd.prog 68 [.int .u8 (cN c)] h (.bool (isLet c)) := by
  refine hcp_of mixed Tryd.func68 (by kernel_rfl) (t_spandrelref2_Letter_eq _) ?_
  unfold t_spandrelref2_Letter
  have hl := isLet_iff c
  repeat' (refine cond_mk (fun h1 => ?_) (fun h1 => ?_) <;> first | replace h1 := of_decide_eq_true h1 | replace h1 := of_decide_eq_false h1)
  all_goals exact ⟨congrArg Value.bool (Bool.eq_iff_iff.2 (by simp only [hl, true_iff, beq_iff_eq]; omega)), rfl⟩
theorem few_hc (s : ByteArray) (n : Int) (h : Hp) (hn : 0 ≤ n) : HCp Tryd.prog 20 [.string s, .int .i64 n] h (.string (s.extract 0 (min n.toNat s.size))) := by
  refine hcp_of mixed Tryd.func20 (by kernel_rfl) (t_spandrellaw2_few_eq s n) ?_
  refine cond_mk (fun h1 => ?_) (fun h1 => ?_)
  · have h1 := of_decide_eq_true h1
    refine need_of ⟨by omega, hn, by omega⟩ ⟨?_, rfl⟩
    congr 1
    rw [Nat.min_eq_left (by omega)]
  · have h1 := of_decide_eq_false h1
    refine ⟨?_, rfl⟩
    congr 1
    rw [Nat.min_eq_right (by omega)]
    simp
/-- A register's number, whether it is a z, whether it is one. -/
def regL (s : List UInt8) : Int × Bool × Bool :=
  match s with
  | [a, b] => if cN a = 114 ∧ 48 ≤ cN b ∧ cN b ≤ 55 then (cN b - 48, false, true) else if cN a = 122 ∧ 48 ≤ cN b ∧ cN b ≤ 51 then (cN b - 48, true, true) else (0, false, false)
  | _ => (0, false, false)
theorem regL_len {s : List UInt8} (h : s.length ≠ 2) : regL s = (0, false, false) := by
  unfold regL
  split
  · simp at h
  · rfl
theorem sbyte_cN (s : ByteArray) (n : Int) : sbyte s n = cN (s.data.toList.getD n.toNat 0) := rfl
theorem two_bytes {s : ByteArray} (h1 : (s.size : Int) = 2) : ∃ a b, s.data.toList = [a, b] := by
  have hsz : s.data.toList.length = s.size := by simp
  match hl : s.data.toList with
  | [a, b] => exact ⟨a, b, rfl⟩
  | [] => rw [hl] at hsz; simp at hsz; omega
  | [a] => rw [hl] at hsz; simp at hsz; omega
  | a :: b :: c :: l => rw [hl] at hsz; simp at hsz; omega
theorem register_hc (s : ByteArray) (h : Hp) : HCp Tryd.prog 29 [.string s] h (.tuple #[.int .i64 (regL s.data.toList).1, .bool (regL s.data.toList).2.1, .bool (regL s.data.toList).2.2]) := by
  refine hcp_of mixed Tryd.func29 (by kernel_rfl) (t_lex_Register_eq s) ?_
  have hsz : s.data.toList.length = s.size := by simp
  unfold t_lex_Register
  refine cond_mk (fun h1 => ?_) (fun h1 => ?_)
  · have h1 : (s.size : Int) ≠ 2 := by simpa using h1
    rw [regL_len (by omega)]
    exact ⟨rfl, rfl⟩
  · have h1 : (s.size : Int) = 2 := by simpa using h1
    obtain ⟨a, b, hab⟩ := two_bytes h1
    have e0 : sbyte s 0 = cN a := by rw [sbyte_cN, hab]; rfl
    have e1 : sbyte s 1 = cN b := by rw [sbyte_cN, hab]; rfl
    have hb := b.toNat_lt
    have w1 : IntKind.wrap .i64 (IntKind.wrap .i64 (sbyte s 1) - 48) = cN b - 48 := by
      rw [e1, wrap_i64 (x := cN b) (by unfold cN; omega) (by unfold cN; omega), wrap_i64 (by unfold cN; omega) (by unfold cN; omega)]
    rw [w1, e0, hab]
    unfold regL
    repeat' (first | refine need_of ⟨by omega, by omega⟩ ?_ | (refine cond_mk (fun h1 => ?_) (fun h1 => ?_) <;> first | replace h1 := of_decide_eq_true h1 | replace h1 := of_decide_eq_false h1 | replace h1 := eq_of_beq h1 | replace h1 := ne_of_beq_false h1))
    all_goals
      refine ⟨?_, rfl⟩
      simp only
      first
        | (exfalso; omega)
        | rw [if_pos (by omega)]
        | rw [if_neg (by omega), if_pos (by omega)]
        | rw [if_neg (by omega), if_neg (by omega)]
theorem register2_hc (s : ByteArray) (h : Hp) : HCp Tryd.prog 31 [.string s] h (.tuple #[.int .i64 (regL s.data.toList).1, .bool (regL s.data.toList).2.1, .bool (regL s.data.toList).2.2]) := by
  refine hcp_of mixed Tryd.func31 (by kernel_rfl) (t_spandrelref2_Register_eq s) ?_
  have hsz : s.data.toList.length = s.size := by simp
  unfold t_spandrelref2_Register
  refine cond_mk (fun h1 => ?_) (fun h1 => ?_)
  · have h1 : (s.size : Int) ≠ 2 := by simpa using h1
    rw [regL_len (by omega)]
    exact ⟨rfl, rfl⟩
  · have h1 : (s.size : Int) = 2 := by simpa using h1
    obtain ⟨a, b, hab⟩ := two_bytes h1
    have e0 : sbyte s 0 = cN a := by rw [sbyte_cN, hab]; rfl
    have e1 : sbyte s 1 = cN b := by rw [sbyte_cN, hab]; rfl
    have hb := b.toNat_lt
    have w1 : IntKind.wrap .i64 (IntKind.wrap .i64 (sbyte s 1) - 48) = cN b - 48 := by
      rw [e1, wrap_i64 (x := cN b) (by unfold cN; omega) (by unfold cN; omega), wrap_i64 (by unfold cN; omega) (by unfold cN; omega)]
    rw [w1, e0, hab]
    unfold regL
    repeat' (first | refine need_of ⟨by omega, by omega⟩ ?_ | (refine cond_mk (fun h1 => ?_) (fun h1 => ?_) <;> first | replace h1 := of_decide_eq_true h1 | replace h1 := of_decide_eq_false h1 | replace h1 := eq_of_beq h1 | replace h1 := ne_of_beq_false h1))
    all_goals
      refine ⟨?_, rfl⟩
      simp only
      first
        | (exfalso; omega)
        | rw [if_pos (by omega)]
        | rw [if_neg (by omega), if_pos (by omega)]
        | rw [if_neg (by omega), if_neg (by omega)]
/-- Is a text a name, and no register? -/
def legalL (s : List UInt8) : Bool := decide (0 < s.length) && decide (s.length ≤ 32) && isLet (s.getD 0 0) && s.all (fun c => isLet c || isDig c) && !(regL s).2.2
theorem rowN_pos {s set : List UInt8} (h : 0 < s.length) : 0 < rowN s set ↔ set.contains (s.getD 0 0) = true := rowN_step s set 0 (Nat.zero_le _) h
theorem rowN_all {s set : List UInt8} : rowN s set = s.length ↔ s.all (fun c => set.contains c) = true := by
  unfold rowN
  induction s with
  | nil => simp
  | cons c s ih =>
    rw [List.takeWhile_cons, List.all_cons]
    cases hc : set.contains c with
    | true => simp only [if_true, List.length_cons, Bool.true_and]; rw [← ih]; omega
    | false => simp
theorem lset : (⟨#[97, 98, 99, 100, 101, 102, 103, 104, 105, 106, 107, 108, 109, 110, 111, 112, 113, 114, 115, 116, 117, 118, 119, 120, 121, 122, 65, 66, 67, 68, 69, 70, 71, 72, 73, 74, 75, 76, 77, 78, 79, 80, 81, 82, 83, 84, 85, 86, 87, 88, 89, 90, 95]⟩ : ByteArray).data.toList = lettersL := rfl
theorem gset : (⟨#[97, 98, 99, 100, 101, 102, 103, 104, 105, 106, 107, 108, 109, 110, 111, 112, 113, 114, 115, 116, 117, 118, 119, 120, 121, 122, 65, 66, 67, 68, 69, 70, 71, 72, 73, 74, 75, 76, 77, 78, 79, 80, 81, 82, 83, 84, 85, 86, 87, 88, 89, 90, 95, 48, 49, 50, 51, 52, 53, 54, 55, 56, 57]⟩ : ByteArray).data.toList = lettersL ++ digitsL := rfl
theorem toList_nil {s : ByteArray} : (s.toList == []) = decide (s.size = 0) := by
  have : s.toList = s.data.toList := ByteArray.toList_eq s
  rw [this]
  have hsz : s.data.toList.length = s.size := by simp
  cases hl : s.data.toList with
  | nil => rw [hl] at hsz; simp at hsz; simp [← hsz]
  | cons a l => rw [hl] at hsz; simp at hsz; simp [← hsz]
theorem legal_hc (s : ByteArray) (h : Hp) (hs : s.size ≤ 9223372036854775807) : HCp Tryd.prog 30 [.string s] h (.bool (legalL s.data.toList)) := by
  refine hcp_of mixed Tryd.func30 (by kernel_rfl) (t_lex_Legal_eq s) ?_
  have hsz : s.data.toList.length = s.size := by simp
  unfold t_lex_Legal
  refine call_ibb (register_hc s h) ?_
  unfold legalL
  rw [hsz]
  refine cond_mk (fun h1 => ?_) (fun h1 => ?_)
  · have h1 : s.size ≠ 0 := by rw [toList_nil] at h1; simpa using h1
    refine cond_mk (fun h2 => ?_) (fun h2 => ?_)
    · have h2 := of_decide_eq_true h2
      refine call_int (row_hc s _ h hs) ?_
      rw [lset]
      have hp := rowN_pos (set := lettersL) (by omega : 0 < s.data.toList.length)
      rw [letters_is] at hp
      refine cond_mk (fun h3 => ?_) (fun h3 => ?_)
      · have h3 := of_decide_eq_true h3
        refine call_int (row_hc s _ h hs) ?_
        rw [gset]
        have ha := rowN_all (s := s.data.toList) (set := lettersL ++ digitsL)
        have hg : (fun c => (lettersL ++ digitsL).contains c) = (fun c => isLet c || isDig c) := funext glued_is
        rw [hg] at ha
        rw [show decide (0 < s.size) = true from decide_eq_true (by omega), show decide (s.size ≤ 32) = true from decide_eq_true (by omega), hp.1 (by omega)]
        refine cond_mk (fun h4 => ?_) (fun h4 => ?_)
        · have h4 := eq_of_beq h4
          rw [ha.1 (by omega)]
          exact ⟨rfl, rfl⟩
        · have h4 := ne_of_beq_false h4
          have : s.data.toList.all (fun c => isLet c || isDig c) = false := by
            cases hx : s.data.toList.all (fun c => isLet c || isDig c) with
            | false => rfl
            | true => exact (h4 (by rw [ha.2 hx]; omega)).elim
          rw [this]
          exact ⟨rfl, rfl⟩
      · have h3 := of_decide_eq_false h3
        have : isLet (s.data.toList.getD 0 0) = false := by
          cases hx : isLet (s.data.toList.getD 0 0) with
          | false => rfl
          | true => have := hp.2 hx; omega
        rw [this]
        exact ⟨by simp, rfl⟩
    · have h2 := of_decide_eq_false h2
      rw [show decide (s.size ≤ 32) = false from decide_eq_false (by omega)]
      exact ⟨by simp, rfl⟩
  · have h1 : s.size = 0 := by rw [toList_nil] at h1; simpa using h1
    rw [show decide (0 < s.size) = false from decide_eq_false (by omega)]
    exact ⟨by simp, rfl⟩
end Go.Sx
