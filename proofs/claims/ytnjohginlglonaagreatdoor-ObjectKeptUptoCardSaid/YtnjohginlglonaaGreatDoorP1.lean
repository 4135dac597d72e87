/- Contracts over heaps, and plain laws, for the functions that the laws of chapter 10 call, part 1: Sums of names, in plain words: lists of terms with rising names are one where each name's coefficient is one; sums and products keep that shape. expr.Add, expr.Times over heaps: what is returned is new memory that holds the sum, the product. The reading of an expression, in plain words: signs, factors, parts, sums, of tokens. The parser's small parts over heaps: its signs, its refusals, a name's Lin. A factor, read over heaps: the closure of Parse that reads one does what the plain words say. Parts and sums, read over heaps: the closures of Parse do what the plain words say. Sums, read over heaps: the closure of Parse does what the plain words say. The document's sums over heaps: its signs, refusals, Times, Add, Same. Right, Same, of the program and of the document, over heaps. Units as bytes, in plain Lean: numbers, texts, sums of names, what is laid is read again. Units as bytes, in plain Lean: items and units; what is written is read again, what is read is what is written. Units as bytes, in plain Lean: an item that is right is read as it was written, and the other way round. Units as bytes, in plain Lean: a unit that is right is read as it was written, and the other way round. Same, slices.Equal, append of terms, over heaps. The operations over heaps: their table, At, Spans, Check, power. Condition: as each statement says. -/
import Derived.Test.YtnjohginlglonaaGreatDoorZobjT
import Derived.Test.YtnjohginlglonaaGreatDoorSxL
import Derived.Test.YtnjohginlglonaaGreatDoorZShelf
import Derived.Test.YtnjohginlglonaaGreatDoorSxG
import Derived.Test.YtnjohginlglonaaGreatDoorSxU
import Derived.Test.YtnjohginlglonaaGreatDoorSxE
set_option linter.unusedVariables false
set_option maxRecDepth 100000
namespace Go.Sx
open Go.Proofs

theorem mixed : Tryz.prog.follows .mixedOrders = true := by kernel_rfl
theorem nm106 : (Tryz.f117.name == "runtime.NumGoroutine") = false := by kernel_rfl
theorem nb106 : Tryz.f117.body.isNone = true := by kernel_rfl
theorem en106 : Extern.findNext Tryz.f117 = none := by kernel_rfl
theorem ef106 : Extern.find Tryz.f117 = some Extern.BytealgIndexByte.indexByte := by kernel_rfl
theorem indexByte0_hc (s : ByteArray) (c : Int) (h : Hp) : HCp Tryz.prog 109 [.string s, .int .u8 c] h (.int .i64 (Lib.indexByte s.data.toList c.toNat.toUInt8)) := by
  refine hcp_of mixed Tryz.func109 (by kernel_rfl) (t_internal_stringslite_IndexByte_eq s c) ?_
  refine semW_ext Tryz.func117 nm106 nb106 en106 ef106 ?_
  rw [semW_indexByte]
  exact ⟨(_, ()), rfl, rfl, rfl⟩
theorem indexByte_hc (s : ByteArray) (c : Int) (h : Hp) : HCp Tryz.prog 101 [.string s, .int .u8 c] h (.int .i64 (Lib.indexByte s.data.toList c.toNat.toUInt8)) := by
  refine hcp_of mixed Tryz.func101 (by kernel_rfl) (t_strings_IndexByte_eq s c) ?_
  exact call_int (indexByte0_hc s c h) ⟨rfl, rfl⟩

/-- How many bytes of a set a text begins with. -/
def rowN (s set : List UInt8) : Nat := (s.takeWhile fun c => set.contains c).length
theorem rowN_le (s set : List UInt8) : rowN s set ≤ s.length := by
  unfold rowN
  exact (List.takeWhile_prefix _).length_le
theorem takeWhile_step {p : UInt8 → Bool} : ∀ (l : List UInt8) (k : Nat), k ≤ (l.takeWhile p).length → k < l.length → (k < (l.takeWhile p).length ↔ p (l.getD k 0) = true)
  | [], k, _, h => by simp at h
  | c :: l, 0, _, _ => by
    simp only [List.takeWhile_cons, List.getD_cons_zero]
    cases hp : p c <;> simp
  | c :: l, k + 1, h, hl => by
    simp only [List.takeWhile_cons] at h ⊢
    cases hp : p c with
    | false => rw [hp] at h; simp at h
    | true =>
      rw [hp] at h
      simp at h hl
      have := takeWhile_step l k (by simpa using h) hl
      simpa using this
theorem rowN_step (s set : List UInt8) (k : Nat) (hk : k ≤ rowN s set) (hl : k < s.length) : (k < rowN s set ↔ set.contains (s.getD k 0) = true) := takeWhile_step s k hk hl
theorem sbyte_u8 (s : ByteArray) (n : Int) : (sbyte s n).toNat.toUInt8 = s.data.toList.getD n.toNat 0 := by
  unfold sbyte; simp
theorem row_hc (s set : ByteArray) (h : Hp) (hs : s.size ≤ 9223372036854775807) : HCp Tryz.prog 90 [.string s, .string set] h (.int .i64 (rowN s.data.toList set.data.toList)) := by
  refine hcp_of mixed Tryz.func90 (by kernel_rfl) (t_lex_row_eq s set) ?_
  have hsz : s.data.toList.length = s.size := by simp
  have hle := rowN_le s.data.toList set.data.toList
  refine loop_of (cs := [(false, [.int .i64])]) (fun x n h' => h' = h ∧ ∃ k : Nat, x.1 = (k : Int) ∧ k ≤ rowN s.data.toList set.data.toList ∧ n = s.size - k) ((0 : Int), ()) s.size rfl ⟨rfl, 0, rfl, by omega, by omega⟩ ?_
  rintro ⟨n, ⟨⟩⟩ m h' ⟨rfl, k, hk, hle', rfl⟩
  simp only at hk
  subst hk
  refine cond_mk (fun hb => ?_) (fun hb => ?_)
  · have hlt : (k : Int) < s.size := of_decide_eq_true hb
    have hst := rowN_step s.data.toList set.data.toList k hle' (by omega)
    refine need_of ⟨by omega, hlt⟩ ?_
    refine call_int (indexByte_hc _ _ _) ?_
    rw [sbyte_u8]
    have hc := Lib.contains_iff_indexByte set.data.toList (s.data.toList.getD k 0)
    refine cond_mk (fun hb2 => ?_) (fun hb2 => ?_)
    · have h2 := of_decide_eq_true hb2
      rw [wrap_i64 (by omega) (by omega)]
      have hin : set.data.toList.contains (s.data.toList.getD k 0) = true := by rw [hc]; exact decide_eq_true h2
      exact again_mk (cs := [(false, [.int .i64])]) ((k : Int) + 1, ()) (s.size - (k + 1)) rfl (by omega) rfl ⟨rfl, k + 1, (show ((k : Int) + 1) = ((k + 1 : Nat) : Int) from by omega), hst.2 hin, rfl⟩
    · have h2 := of_decide_eq_false hb2
      have hin : ¬ set.data.toList.contains (s.data.toList.getD k 0) = true := by rw [hc]; exact fun hh => h2 (of_decide_eq_true hh)
      have : k = rowN s.data.toList set.data.toList := by
        have : ¬ k < rowN s.data.toList set.data.toList := fun hh => hin (hst.1 hh)
        omega
      exact ⟨by rw [← this], rfl⟩
  · have hge : ¬ (k : Int) < s.size := of_decide_eq_false hb
    have : k = rowN s.data.toList set.data.toList := by omega
    exact ⟨by rw [← this], rfl⟩
/-! Bytes: letters and digits. -/
def isLet (c : UInt8) : Bool := (97 ≤ c.toNat && c.toNat ≤ 122) || (65 ≤ c.toNat && c.toNat ≤ 90) || c.toNat == 95
def isDig (c : UInt8) : Bool := 48 ≤ c.toNat && c.toNat ≤ 57
def lettersL : List UInt8 := [97, 98, 99, 100, 101, 102, 103, 104, 105, 106, 107, 108, 109, 110, 111, 112, 113, 114, 115, 116, 117, 118, 119, 120, 121, 122, 65, 66, 67, 68, 69, 70, 71, 72, 73, 74, 75, 76, 77, 78, 79, 80, 81, 82, 83, 84, 85, 86, 87, 88, 89, 90, 95]
def digitsL : List UInt8 := [48, 49, 50, 51, 52, 53, 54, 55, 56, 57]
theorem all_bytes (p q : UInt8 → Bool) (h : (List.range 256).all (fun n => p (UInt8.ofNat n) == q (UInt8.ofNat n)) = true) (c : UInt8) : p c = q c := by
  have := List.all_eq_true.1 h c.toNat (List.mem_range.2 (by have := c.toNat_lt; omega))
  simpa using this
theorem letters_is (c : UInt8) : lettersL.contains c = isLet c := all_bytes (fun c => lettersL.contains c) isLet (by decide +kernel) c
theorem glued_is (c : UInt8) : (lettersL ++ digitsL).contains c = (isLet c || isDig c) := all_bytes (fun c => (lettersL ++ digitsL).contains c) (fun c => isLet c || isDig c) (by decide +kernel) c
def cN (c : UInt8) : Int := (c.toNat : Nat)
theorem isLet_iff (c : UInt8) : isLet c = true ↔ (97 ≤ cN c ∧ cN c ≤ 122) ∨ (65 ≤ cN c ∧ cN c ≤ 90) ∨ cN c = 95 := by
  unfold isLet cN
  simp only [Bool.or_eq_true, Bool.and_eq_true, decide_eq_true_eq, beq_iff_eq]
  omega
/-- A register's number, whether it is a z, whether it is one. -/
def regL (s : List UInt8) : Int × Bool × Bool :=
  match s with
  | [a, b] => if cN a = 114 ∧ 48 ≤ cN b ∧ cN b ≤ 55 then (cN b - 48, false, true) else if cN a = 122 ∧ 48 ≤ cN b ∧ cN b ≤ 51 then (cN b - 48, true, true) else (0, false, false)
  | _ => (0, false, false)
theorem regL_len {s : List UInt8} (h : s.length ≠ 2) : regL s = (0, false, false) := by
  unfold regL
  split
  · simp at h
  · rfl
theorem sbyte_cN (s : ByteArray) (n : Int) : sbyte s n = cN (s.data.toList.getD n.toNat 0) := rfl
theorem two_bytes {s : ByteArray} (h1 : (s.size : Int) = 2) : ∃ a b, s.data.toList = [a, b] := by
  have hsz : s.data.toList.length = s.size := by simp
  match hl : s.data.toList with
  | [a, b] => exact ⟨a, b, rfl⟩
  | [] => rw [hl] at hsz; simp at hsz; omega
  | [a] => rw [hl] at hsz; simp at hsz; omega
  | a :: b :: c :: l => rw [hl] at hsz; simp at hsz; omega
theorem register_hc (s : ByteArray) (h : Hp) : HCp Tryz.prog 89 [.string s] h (.tuple #[.int .i64 (regL s.data.toList).1, .bool (regL s.data.toList).2.1, .bool (regL s.data.toList).2.2]) := by
  refine hcp_of mixed Tryz.func89 (by kernel_rfl) (t_lex_Register_eq s) ?_
  have hsz : s.data.toList.length = s.size := by simp
  unfold t_lex_Register
  refine cond_mk (fun h1 => ?_) (fun h1 => ?_)
  · have h1 : (s.size : Int) ≠ 2 := by simpa using h1
    rw [regL_len (by omega)]
    exact ⟨rfl, rfl⟩
  · have h1 : (s.size : Int) = 2 := by simpa using h1
    obtain ⟨a, b, hab⟩ := two_bytes h1
    have e0 : sbyte s 0 = cN a := by rw [sbyte_cN, hab]; rfl
    have e1 : sbyte s 1 = cN b := by rw [sbyte_cN, hab]; rfl
    have hb := b.toNat_lt
    have w1 : IntKind.wrap .i64 (IntKind.wrap .i64 (sbyte s 1) - 48) = cN b - 48 := by
      rw [e1, wrap_i64 (x := cN b) (by unfold cN; omega) (by unfold cN; omega), wrap_i64 (by unfold cN; omega) (by unfold cN; omega)]
    rw [w1, e0, hab]
    unfold regL
    repeat' (first | refine need_of ⟨by omega, by omega⟩ ?_ | (refine cond_mk (fun h1 => ?_) (fun h1 => ?_) <;> first | replace h1 := of_decide_eq_true h1 | replace h1 := of_decide_eq_false h1 | replace h1 := eq_of_beq h1 | replace h1 := ne_of_beq_false h1))
    all_goals
      refine ⟨?_, rfl⟩
      simp only
      first
        | (exfalso; omega)
        | rw [if_pos (by omega)]
        | rw [if_neg (by omega), if_pos (by omega)]
        | rw [if_neg (by omega), if_neg (by omega)]
/-- Is a text a name, and no register? -/
def legalL (s : List UInt8) : Bool := decide (0 < s.length) && decide (s.length ≤ 32) && isLet (s.getD 0 0) && s.all (fun c => isLet c || isDig c) && !(regL s).2.2
theorem rowN_pos {s set : List UInt8} (h : 0 < s.length) : 0 < rowN s set ↔ set.contains (s.getD 0 0) = true := rowN_step s set 0 (Nat.zero_le _) h
theorem rowN_all {s set : List UInt8} : rowN s set = s.length ↔ s.all (fun c => set.contains c) = true := by
  unfold rowN
  induction s with
  | nil => simp
  | cons c s ih =>
    rw [List.takeWhile_cons, List.all_cons]
    cases hc : set.contains c with
    | true => simp only [if_true, List.length_cons, Bool.true_and]; rw [← ih]; omega
    | false => simp
theorem lset : (⟨#[97, 98, 99, 100, 101, 102, 103, 104, 105, 106, 107, 108, 109, 110, 111, 112, 113, 114, 115, 116, 117, 118, 119, 120, 121, 122, 65, 66, 67, 68, 69, 70, 71, 72, 73, 74, 75, 76, 77, 78, 79, 80, 81, 82, 83, 84, 85, 86, 87, 88, 89, 90, 95]⟩ : ByteArray).data.toList = lettersL := rfl
theorem gset : (⟨#[97, 98, 99, 100, 101, 102, 103, 104, 105, 106, 107, 108, 109, 110, 111, 112, 113, 114, 115, 116, 117, 118, 119, 120, 121, 122, 65, 66, 67, 68, 69, 70, 71, 72, 73, 74, 75, 76, 77, 78, 79, 80, 81, 82, 83, 84, 85, 86, 87, 88, 89, 90, 95, 48, 49, 50, 51, 52, 53, 54, 55, 56, 57]⟩ : ByteArray).data.toList = lettersL ++ digitsL := rfl
theorem toList_nil {s : ByteArray} : (s.toList == []) = decide (s.size = 0) := by
  have : s.toList = s.data.toList := ByteArray.toList_eq s
  rw [this]
  have hsz : s.data.toList.length = s.size := by simp
  cases hl : s.data.toList with
  | nil => rw [hl] at hsz; simp at hsz; simp [← hsz]
  | cons a l => rw [hl] at hsz; simp at hsz; simp [← hsz]
theorem legal_hc (s : ByteArray) (h : Hp) (hs : s.size ≤ 9223372036854775807) : HCp Tryz.prog 69 [.string s] h (.bool (legalL s.data.toList)) := by
  refine hcp_of mixed Tryz.func69 (by kernel_rfl) (t_lex_Legal_eq s) ?_
  have hsz : s.data.toList.length = s.size := by simp
  unfold t_lex_Legal
  refine call_ibb (register_hc s h) ?_
  unfold legalL
  rw [hsz]
  refine cond_mk (fun h1 => ?_) (fun h1 => ?_)
  · have h1 : s.size ≠ 0 := by rw [toList_nil] at h1; simpa using h1
    refine cond_mk (fun h2 => ?_) (fun h2 => ?_)
    · have h2 := of_decide_eq_true h2
      refine call_int (row_hc s _ h hs) ?_
      rw [lset]
      have hp := rowN_pos (set := lettersL) (by omega : 0 < s.data.toList.length)
      rw [letters_is] at hp
      refine cond_mk (fun h3 => ?_) (fun h3 => ?_)
      · have h3 := of_decide_eq_true h3
        refine call_int (row_hc s _ h hs) ?_
        rw [gset]
        have ha := rowN_all (s := s.data.toList) (set := lettersL ++ digitsL)
        have hg : (fun c => (lettersL ++ digitsL).contains c) = (fun c => isLet c || isDig c) := funext glued_is
        rw [hg] at ha
        rw [show decide (0 < s.size) = true from decide_eq_true (by omega), show decide (s.size ≤ 32) = true from decide_eq_true (by omega), hp.1 (by omega)]
        refine cond_mk (fun h4 => ?_) (fun h4 => ?_)
        · have h4 := eq_of_beq h4
          rw [ha.1 (by omega)]
          exact ⟨rfl, rfl⟩
        · have h4 := ne_of_beq_false h4
          have : s.data.toList.all (fun c => isLet c || isDig c) = false := by
            cases hx : s.data.toList.all (fun c => isLet c || isDig c) with
            | false => rfl
            | true => exact (h4 (by rw [ha.2 hx]; omega)).elim
          rw [this]
          exact ⟨rfl, rfl⟩
      · have h3 := of_decide_eq_false h3
        have : isLet (s.data.toList.getD 0 0) = false := by
          cases hx : isLet (s.data.toList.getD 0 0) with
          | false => rfl
          | true => have := hp.2 hx; omega
        rw [this]
        exact ⟨by simp, rfl⟩
    · have h2 := of_decide_eq_false h2
      rw [show decide (s.size ≤ 32) = false from decide_eq_false (by omega)]
      exact ⟨by simp, rfl⟩
  · have h1 : s.size = 0 := by rw [toList_nil] at h1; simpa using h1
    rw [show decide (0 < s.size) = false from decide_eq_false (by omega)]
    exact ⟨by simp, rfl⟩
end Go.Sx

set_option linter.unusedVariables false
set_option maxRecDepth 100000
namespace Go.Sx
open Go.Proofs Go.MapKept Go.WideAt Go.WideMaps Go.Maps Go.RowKit Go.WideElems Go.WideElems
theorem und9 : Tryz.prog.underlying 9 = some .string := by kernel_rfl
theorem SameO.alloc (w : World) (o : Obj) : SameO w (w.alloc o) := ⟨rfl, rfl, rfl⟩
end Go.Sx

set_option linter.unusedVariables false
set_option maxRecDepth 100000
namespace Go.Sx
open Go.Proofs
/-- Terms: names so many times. -/
abbrev Tms := List (ByteArray × Nat)
def encT (p : ByteArray × Nat) : List Value := [.string p.1, .int .u32 p.2]
theorem und67 : Tryz.prog.underlying 73 = some (.slice 104) := by kernel_rfl
theorem termZ : (Tryz.prog.info? 104).map (fun i => (i.zero, i.size, i.bytes)) = some (some (.agg #[.string ⟨#[]⟩, .int .u32 0]), 2, 24) := by kernel_rfl
/-- Terms that lie in a heap, to be read. -/
structure VwT (h : Hp) (p : Option Addr) (l : Nat) (us : Tms) : Prop where
  len : l = us.length
  cells : ∀ i, (hi : i < us.length) → ∃ a, p = some a ∧ cellsAt h (a.add (i * 2)) 0 (encT us[i])
theorem VwT.keep {ws : List Nat} {h h' : Hp} {p : Option Addr} {l : Nat} {us : Tms} (v : VwT h p l us) (k : Ch ws h h') (hw : ∀ i, i ∈ blkOf p → i ∉ ws) : VwT h' p l us :=
  ⟨v.len, fun i hi => by
    obtain ⟨a, ha, hc⟩ := v.cells i hi
    exact ⟨a, ha, cellsAt_keep k (by rw [add_block]; exact hw _ (by rw [ha]; simp [blkOf])) _ _ hc⟩⟩
theorem SL.vwT {h : Hp} {b : Nat} {e : TypeId} {p : Option Addr} {l c : Nat} {us : Tms} (s : SL h b e 2 p l c (us.map encT)) : VwT h p l us := by
  refine ⟨by rw [s.1, List.length_map], fun i hi => ?_⟩
  obtain ⟨a, ha, hc⟩ := s.cells (i := i) (by simpa using hi)
  rw [List.getElem_map] at hc
  exact ⟨a, ha, hc⟩
/-- A Lin: terms and a number. -/
structure Lin where
  terms : Tms
  num : Nat
/-- What is handed about for a Lin. -/
def linV (p : Option Addr) (l c : Nat) (x : Lin) : Value := .agg #[.slice p l c, .int .u32 x.num]
end Go.Sx

set_option linter.unusedVariables false
set_option linter.unusedSimpArgs false
set_option maxRecDepth 100000
namespace Go.Sx
open Go.Proofs
def ltN (a b : ByteArray) : Prop := a.data.toList < b.data.toList
instance (a b : ByteArray) : Decidable (ltN a b) := inferInstanceAs (Decidable (a.data.toList < b.data.toList))
theorem ltN_irrefl (a : ByteArray) : ¬ ltN a a := List.lt_irrefl (α := UInt8) _
theorem ltN_trans {a b c : ByteArray} (h : ltN a b) (k : ltN b c) : ltN a c := List.lt_trans (α := UInt8) h k
theorem baExt {a b : ByteArray} (h : a.data.toList = b.data.toList) : a = b := by
  cases a; cases b
  simp only at h
  rw [Array.toList_inj.1 h]
theorem ltN_tri (a b : ByteArray) (h : ¬ ltN a b) (k : ¬ ltN b a) : a = b :=
  baExt (List.le_antisymm (α := UInt8) (List.not_lt.1 k) (List.not_lt.1 h))
theorem ltN_ne {a b : ByteArray} (h : ltN a b) : a ≠ b := fun e => by subst e; exact ltN_irrefl _ h
theorem ltN_asymm {a b : ByteArray} (h : ltN a b) : ¬ ltN b a := fun k => ltN_irrefl _ (ltN_trans h k)
/-- Names rising, no coefficient zero. -/
structure Nf (l : Tms) : Prop where
  sorted : l.Pairwise fun p q => ltN p.1 q.1
  coef : ∀ p, p ∈ l → p.2 ≠ 0 ∧ p.2 < 4294967296
theorem Nf.tail {p : ByteArray × Nat} {l : Tms} (h : Nf (p :: l)) : Nf l := ⟨(List.pairwise_cons.1 h.1).2, fun q hq => h.2 q (List.mem_cons_of_mem _ hq)⟩
theorem Nf.head {p : ByteArray × Nat} {l : Tms} (h : Nf (p :: l)) : ∀ q, q ∈ l → ltN p.1 q.1 := (List.pairwise_cons.1 h.1).1
theorem Nf.nil : Nf [] := ⟨List.Pairwise.nil, by simp⟩
/-! What 'made' makes. -/
/-- Of sorted names those that have a coefficient. -/
def pick (g : ByteArray → Nat) (ks : List (List UInt8)) : Tms := ks.filterMap fun k => if g ⟨k.toArray⟩ = 0 then none else some (⟨k.toArray⟩, g ⟨k.toArray⟩)
/-! The reference's sums and products. -/
def timesN (n : Nat) (l : Tms) : Tms := l.filterMap fun p => if p.2 * n % 4294967296 = 0 then none else some (p.1, p.2 * n % 4294967296)
def addF : Nat → Tms → Tms → Tms
  | 0, _, _ => []
  | n + 1, x, y => match x, y with
    | [], [] => []
    | p :: x, [] => p :: addF n x []
    | [], q :: y => q :: addF n [] y
    | p :: x, q :: y => if ltN p.1 q.1 then p :: addF n x (q :: y) else if ltN q.1 p.1 then q :: addF n (p :: x) y else if (p.2 + q.2) % 4294967296 = 0 then addF n x y else (p.1, (p.2 + q.2) % 4294967296) :: addF n x y
def addM (x y : Tms) : Tms := addF (x.length + y.length) x y
theorem timesN_nf {n : Nat} {l : Tms} (h : Nf l) : Nf (timesN n l) := by
  refine ⟨?_, ?_⟩
  · unfold timesN
    refine List.Pairwise.filterMap _ ?_ h.1
    intro a b hab p hp q hq
    split at hp
    · cases hp
    · split at hq
      · cases hq
      · cases hp; cases hq
        exact hab
  · intro p hp
    unfold timesN at hp
    rw [List.mem_filterMap] at hp
    obtain ⟨k, _, hk⟩ := hp
    split at hk
    · cases hk
    · rename_i h0
      cases hk
      exact ⟨h0, Nat.mod_lt _ (by decide)⟩
theorem mem_addF {n : Nat} {x y : Tms} {r : ByteArray × Nat} (h : r ∈ addF n x y) : (∃ p, p ∈ x ∧ p.1 = r.1) ∨ (∃ q, q ∈ y ∧ q.1 = r.1) := by
  induction n generalizing x y with
  | zero => simp [addF] at h
  | succ n ih =>
    rcases x with _ | ⟨p, x⟩ <;> rcases y with _ | ⟨q, y⟩
    · simp [addF] at h
    · simp only [addF, List.mem_cons] at h
      rcases h with rfl | h
      · exact .inr ⟨_, by simp, rfl⟩
      · rcases ih h with ⟨a, ha, e⟩ | ⟨a, ha, e⟩
        · simp at ha
        · exact .inr ⟨a, by simp [ha], e⟩
    · simp only [addF, List.mem_cons] at h
      rcases h with rfl | h
      · exact .inl ⟨_, by simp, rfl⟩
      · rcases ih h with ⟨a, ha, e⟩ | ⟨a, ha, e⟩
        · exact .inl ⟨a, by simp [ha], e⟩
        · simp at ha
    · simp only [addF] at h
      split at h
      · rcases List.mem_cons.1 h with rfl | h
        · exact .inl ⟨_, by simp, rfl⟩
        · rcases ih h with ⟨a, ha, e⟩ | ⟨a, ha, e⟩
          · exact .inl ⟨a, by simp [ha], e⟩
          · exact .inr ⟨a, ha, e⟩
      · split at h
        · rcases List.mem_cons.1 h with rfl | h
          · exact .inr ⟨_, by simp, rfl⟩
          · rcases ih h with ⟨a, ha, e⟩ | ⟨a, ha, e⟩
            · exact .inl ⟨a, ha, e⟩
            · exact .inr ⟨a, by simp [ha], e⟩
        · split at h
          · rcases ih h with ⟨a, ha, e⟩ | ⟨a, ha, e⟩
            · exact .inl ⟨a, by simp [ha], e⟩
            · exact .inr ⟨a, by simp [ha], e⟩
          · rcases List.mem_cons.1 h with rfl | h
            · exact .inl ⟨p, by simp, rfl⟩
            · rcases ih h with ⟨a, ha, e⟩ | ⟨a, ha, e⟩
              · exact .inl ⟨a, by simp [ha], e⟩
              · exact .inr ⟨a, by simp [ha], e⟩
theorem Nf.cons {p : ByteArray × Nat} {l : Tms} (h : Nf l) (hc : p.2 ≠ 0 ∧ p.2 < 4294967296) (hl : ∀ q, q ∈ l → ltN p.1 q.1) : Nf (p :: l) :=
  ⟨List.pairwise_cons.2 ⟨hl, h.1⟩, fun q hq => by rcases List.mem_cons.1 hq with rfl | hq; exact hc; exact h.2 q hq⟩
theorem addF_nf {n : Nat} {x y : Tms} (hx : Nf x) (hy : Nf y) : Nf (addF n x y) := by
  induction n generalizing x y with
  | zero => exact Nf.nil
  | succ n ih =>
    rcases x with _ | ⟨p, x⟩ <;> rcases y with _ | ⟨q, y⟩
    · exact Nf.nil
    · simp only [addF]
      refine (ih Nf.nil hy.tail).cons (hy.2 q (by simp)) fun r hr => ?_
      rcases mem_addF hr with ⟨a, ha, e⟩ | ⟨a, ha, e⟩
      · simp at ha
      · rw [← e]; exact hy.head a ha
    · simp only [addF]
      refine (ih hx.tail Nf.nil).cons (hx.2 p (by simp)) fun r hr => ?_
      rcases mem_addF hr with ⟨a, ha, e⟩ | ⟨a, ha, e⟩
      · rw [← e]; exact hx.head a ha
      · simp at ha
    · simp only [addF]
      split
      · rename_i h1
        refine (ih hx.tail hy).cons (hx.2 p (by simp)) fun r hr => ?_
        rcases mem_addF hr with ⟨a, ha, e⟩ | ⟨a, ha, e⟩
        · rw [← e]; exact hx.head a ha
        · rw [← e]
          rcases List.mem_cons.1 ha with rfl | ha
          · exact h1
          · exact ltN_trans h1 (hy.head a ha)
      · rename_i h1
        split
        · rename_i h2
          refine (ih hx hy.tail).cons (hy.2 q (by simp)) fun r hr => ?_
          rcases mem_addF hr with ⟨a, ha, e⟩ | ⟨a, ha, e⟩
          · rw [← e]
            rcases List.mem_cons.1 ha with rfl | ha
            · exact h2
            · exact ltN_trans h2 (hx.head a ha)
          · rw [← e]; exact hy.head a ha
        · rename_i h2
          have he := ltN_tri _ _ h1 h2
          split
          · exact ih hx.tail hy.tail
          · rename_i h0
            refine (ih hx.tail hy.tail).cons ⟨h0, Nat.mod_lt _ (by decide)⟩ fun r hr => ?_
            rcases mem_addF hr with ⟨a, ha, e⟩ | ⟨a, ha, e⟩
            · rw [← e]; exact hx.head a ha
            · rw [← e]
              show ltN p.1 a.1
              rw [he]; exact hy.head a ha
theorem addM_nf {x y : Tms} (hx : Nf x) (hy : Nf y) : Nf (addM x y) := addF_nf hx hy
def linT (x : Lin) (n : Nat) : Lin := ⟨timesN n x.terms, x.num * n % 4294967296⟩
def linA (x y : Lin) : Lin := ⟨addM x.terms y.terms, (x.num + y.num) % 4294967296⟩
theorem mem_addM {x y : Tms} {r : ByteArray × Nat} (h : r ∈ addM x y) : (∃ p, p ∈ x ∧ p.1 = r.1) ∨ (∃ q, q ∈ y ∧ q.1 = r.1) := mem_addF h
theorem mem_timesN {n : Nat} {x : Tms} {r : ByteArray × Nat} (h : r ∈ timesN n x) : ∃ p, p ∈ x ∧ p.1 = r.1 := by
  unfold timesN at h
  rw [List.mem_filterMap] at h
  obtain ⟨k, hk, hr⟩ := h
  split at hr
  · cases hr
  · cases hr
    exact ⟨k, hk, rfl⟩
end Go.Sx

set_option linter.unusedVariables false
set_option maxRecDepth 100000
namespace Go.Sx
open Go.Proofs
end Go.Sx

set_option linter.unusedVariables false
set_option maxRecDepth 100000
namespace Go.Sx
open Go.Proofs
theorem all_step (p : UInt8 → Bool) (l : List UInt8) (k : Nat) (hk : k < l.length) : (l.take (k + 1)).all p = ((l.take k).all p && p (l.getD k 0)) := by
  rw [List.take_succ_eq_append_getElem hk, List.all_append]
  simp [List.getD, List.getElem?_eq_getElem hk]
end Go.Sx

set_option linter.unusedVariables false
set_option maxRecDepth 100000
namespace Go.Sx
open Go.Proofs
/-- What the laid variables must hold. -/
structure Laid (h : Hp) : Prop where
  syn : ∃ v, hcell h ⟨2, 0, none⟩ = some v ∧ isAggV v = false
  rng : ∃ v, hcell h ⟨3, 0, none⟩ = some v ∧ isAggV v = false
theorem Laid.ext {h h' : Hp} (l : Laid h) (e : Ext h h') : Laid h' := by
  obtain ⟨v, h1, h2⟩ := l.syn
  obtain ⟨u, h3, h4⟩ := l.rng
  exact ⟨⟨v, hcell_keep h1 e (by simp), h2⟩, ⟨u, hcell_keep h3 e (by simp), h4⟩⟩
end Go.Sx

set_option linter.unusedVariables false
set_option maxRecDepth 100000
namespace Go.Sx
open Go.Proofs
/-- A digit's worth. -/
def dv (c : UInt8) : Nat := if c.toNat < 58 then c.toNat - 48 else c.toNat - 87
def valB (b : Nat) (l : List UInt8) : Nat := l.foldl (fun n c => n * b + dv c) 0
def isHex (c : UInt8) : Bool := isDig c || (97 ≤ c.toNat && c.toNat ≤ 102)
end Go.Sx

set_option linter.unusedVariables false
set_option maxRecDepth 100000
namespace Go.Sx
open Go.Proofs
end Go.Sx

set_option linter.unusedVariables false
set_option maxRecDepth 100000
namespace Go.Sx
open Go.Proofs
def hexesL : List UInt8 := [48, 49, 50, 51, 52, 53, 54, 55, 56, 57, 97, 98, 99, 100, 101, 102]
/-- The number that a text begins with: how many bytes, and what they say; no bytes: there is none. -/
def numL (l : List UInt8) : Nat × Nat :=
  if l.take 2 = [48, 120] then
    (if 8 < rowN (l.drop 2) hexesL ∨ rowN (l.drop 2) hexesL = 0 then (0, 0) else (2 + rowN (l.drop 2) hexesL, valB 16 ((l.drop 2).take (rowN (l.drop 2) hexesL))))
  else
    (if (1 < rowN l digitsL ∧ l.getD 0 0 = 48) ∨ rowN l digitsL = 0 ∨ 4294967296 ≤ valB 10 (l.take (rowN l digitsL)) then (0, 0) else (rowN l digitsL, valB 10 (l.take (rowN l digitsL))))
end Go.Sx

set_option linter.unusedVariables false
set_option maxRecDepth 100000
namespace Go.Sx
open Go.Proofs
/-- A token. -/
structure Tok where
  kind : Nat
  text : ByteArray
  num : Nat
  at_ : Nat
def enc (t : Tok) : List Value := [.int .i64 t.kind, .string t.text, .int .u32 t.num, .int .i64 t.at_]
def gluedL : List UInt8 := lettersL ++ digitsL
end Go.Sx

set_option linter.unusedVariables false
set_option maxRecDepth 100000
namespace Go.Sx
open Go.Proofs
end Go.Sx

set_option linter.unusedVariables false
set_option maxRecDepth 100000
namespace Go.Sx
open Go.Proofs
end Go.Sx

set_option linter.unusedVariables false
set_option maxRecDepth 100000
namespace Go.Sx
open Go.Proofs
end Go.Sx

set_option linter.unusedVariables false
set_option maxRecDepth 100000
namespace Go.Sx
open Go.Proofs
/-- A struct type's fields. -/
def flds (P : Program) (t : TypeId) : Array Field :=
  match P.underlying t with
  | some (.struct fs) => fs
  | _ => #[]
theorem bytes_beq (t : ByteArray) : (t == t) = true := by
  cases t with | mk d => show (d == d) = true; simp
end Go.Sx

set_option linter.unusedVariables false
set_option maxRecDepth 100000
namespace Go.Sx
open Go.Proofs
/-- A hexadecimal digit's worth, or -1. -/
def hv (c : UInt8) : Int := if isHex c = true then (dv c : Int) else -1
end Go.Sx

set_option linter.unusedVariables false
set_option maxRecDepth 100000
namespace Go.Sx
open Go.Proofs
/-- The number at a text's head, digits or a sign in quotes: what it says, how long it is (0: there is none). -/
def numR (D : List UInt8) : Nat × Nat :=
  if D.getD 0 0 = 39 then
    (if D.length < 3 ∨ (D.getD 1 0).toNat < 32 ∨ 126 < (D.getD 1 0).toNat ∨ D.getD 1 0 = 39 ∨ D.getD 2 0 ≠ 39 then (0, 0) else ((D.getD 1 0).toNat, 3))
  else if (numL D).1 = 0 ∨ 0 < rowN (D.drop (numL D).1) gluedL then (0, 0) else ((numL D).2, (numL D).1)
end Go.Sx

set_option linter.unusedVariables false
set_option maxRecDepth 100000
namespace Go.Sx
open Go.Proofs
end Go.Sx

set_option linter.unusedVariables false
set_option maxRecDepth 100000
namespace Go.Sx
open Go.Proofs
theorem ba_ext {s t : ByteArray} (h : s.data.toList = t.data.toList) : s = t := by
  cases s; cases t
  simp only at h
  congr 1
  exact Array.toList_inj.1 h
end Go.Sx

set_option linter.unusedVariables false
set_option maxRecDepth 100000
namespace Go.Sx
open Go.Proofs
end Go.Sx

set_option linter.unusedVariables false
set_option maxRecDepth 100000
namespace Go.Sx
open Go.Proofs
end Go.Sx

set_option linter.unusedVariables false
set_option maxRecDepth 100000
namespace Go.Sx
open Go.Proofs
end Go.Sx

set_option linter.unusedVariables false
set_option maxRecDepth 100000
namespace Go.Sx
open Go.Proofs
/-- A list that a book keeps, and its copy. -/
structure Ent where
  p : Option Addr
  l : Nat
  c : Nat
  q : Option Addr
  d : Nat
  ts : List Tok
def Ent.one (e : Ent) : List Value := [.slice e.p e.l e.c]
def Ent.two (e : Ent) : List Value := [.slice e.q e.l e.d]
def Ent.blks (e : Ent) : List Nat := blkOf e.p ++ blkOf e.q
theorem blkOf_add (p : Option Addr) (k : Nat) : blkOf (p.map fun a => a.add k) = blkOf p := by
  cases p with
  | none => rfl
  | some a => simp [blkOf, add_block]
theorem chGb {h h1 h2 : Hp} {gb : Nat} {l : List Nat} (a : Ch (gb :: l) h h1) (c : Ch [gb] h1 h2) : Ch (gb :: l) h h2 := a.trans c (fun i hi _ => by simp at hi; simp [hi])
end Go.Sx

set_option linter.unusedVariables false
set_option maxRecDepth 100000
namespace Go.Sx
open Go.Proofs
/-- What lay below a place lies there as it did. -/
def Since (b : Nat) (h h' : Hp) : Prop := h.size ≤ h'.size ∧ ∀ i, i < b → i < h.size → h'[i]? = h[i]?
theorem Since.of {ws : List Nat} {b : Nat} {h h' : Hp} (k : Ch ws h h') (hw : ∀ i, i ∈ ws → i < h.size → b ≤ i) : Since b h h' :=
  ⟨k.size, fun i hi hl => k.same i hl fun hm => by have := hw i hm hl; omega⟩
theorem Since.trans {b : Nat} {h h1 h2 : Hp} (a : Since b h h1) (c : Since b h1 h2) : Since b h h2 :=
  ⟨Nat.le_trans a.1 c.1, fun i hi hl => (c.2 i hi (Nat.lt_of_lt_of_le hl a.1)).trans (a.2 i hi hl)⟩
theorem Since.ext {h h1 h2 : Hp} (a : Ext h h1) (c : Since h.size h1 h2) : Ext h h2 :=
  ⟨Nat.le_trans a.size c.1, fun i hi _ => (c.2 i hi (Nat.lt_of_lt_of_le hi a.size)).trans (a.same i hi (by simp))⟩
/-- The mark of a place. -/
def mkL (k j : Nat) : List Value := [.int .i64 (IntKind.wrap .i64 (-100 - (k : Int))), .string ⟨#[]⟩, .int .u32 0, .int .i64 (IntKind.wrap .i64 (0 - (j : Int)))]
theorem setL_take {cells vs : List Value} {o n : Nat} (hv : vs.length = n) (h : o + n ≤ cells.length) : ((setL cells o vs).drop o).take n = vs := by
  rw [setL_eq _ _ _ (by omega), List.append_assoc]
  rw [List.drop_append_of_le_length (by rw [List.length_take]; omega), List.drop_of_length_le (by rw [List.length_take]; omega), List.nil_append, List.take_append_of_le_length (by omega), List.take_of_length_le (by omega)]
theorem setL_before {cells vs : List Value} {o o' n : Nat} (h : o + vs.length ≤ cells.length) (h' : o' + n ≤ o) : ((setL cells o vs).drop o').take n = (cells.drop o').take n := by
  rw [setL_eq _ _ _ (by omega), List.append_assoc]
  rw [List.drop_append_of_le_length (by rw [List.length_take]; omega), List.take_append_of_le_length (by rw [List.length_drop, List.length_take]; omega)]
  rw [List.drop_take, List.take_take, Nat.min_eq_left (by omega)]
end Go.Sx

set_option linter.unusedVariables false
set_option maxRecDepth 100000
namespace Go.Sx
open Go.Proofs
end Go.Sx

set_option linter.unusedVariables false
set_option maxRecDepth 100000
namespace Go.Sx
open Go.Proofs
/-- A list of tokens in a heap. -/
structure In where
  p : Option Addr
  l : Nat
  c : Nat
  ts : List Tok
def In.val (a : In) : List Value := [.slice a.p a.l a.c]
/-- A list of lists of tokens; no two share a block. -/
structure Args (h : Hp) (b : Nat) (te es : TypeId) (p : Option Addr) (c : Nat) (al : List In) : Prop where
  out : SL h b te 1 p al.length c (al.map In.val)
  inn : ∀ a, a ∈ al → SL h b es 4 a.p a.l a.c (a.ts.map enc)
  po : ∀ a, a ∈ al → ∀ i, i ∈ blkOf a.p → i ∉ blkOf p
  pp : al.Pairwise fun a a' => ∀ i, i ∈ blkOf a.p → i ∉ blkOf a'.p
theorem Args.keep {ws : List Nat} {h h' : Hp} {b : Nat} {te es : TypeId} {p : Option Addr} {c : Nat} {al : List In} (A : Args h b te es p c al) (k : Ch ws h h') (h1 : ∀ i, i ∈ blkOf p → i ∉ ws) (h2 : ∀ a, a ∈ al → ∀ i, i ∈ blkOf a.p → i ∉ ws) : Args h' b te es p c al :=
  ⟨A.out.keep' k h1, fun a ha => (A.inn a ha).keep' k (h2 a ha), A.po, A.pp⟩
theorem Args.mono {h : Hp} {b b' : Nat} {te es : TypeId} {p : Option Addr} {c : Nat} {al : List In} (A : Args h b te es p c al) (hb : b' ≤ b) : Args h b' te es p c al :=
  ⟨A.out.mono hb, fun a ha => (A.inn a ha).mono hb, A.po, A.pp⟩
theorem Args.nil (h : Hp) (b : Nat) (te es : TypeId) : Args h b te es none 0 [] := ⟨SL.nil _ _ _ _, by simp, by simp, List.Pairwise.nil⟩
/-- One more list behind the others. -/
theorem Args.snoc {h h' : Hp} {b : Nat} {te es : TypeId} {p p' : Option Addr} {c c' : Nat} {al : List In} (A : Args h b te es p c al) {a : In} (hb : b ≤ h.size) (o : SL h' b te 1 p' (al.length + 1) c' (al.map In.val ++ [a.val])) (k : Ch (blkOf p) h h') (hp : p' = p ∨ ∃ x, p' = some x ∧ h.size ≤ x.block)
    (ha : SL h b es 4 a.p a.l a.c (a.ts.map enc)) (h1 : ∀ i, i ∈ blkOf a.p → i ∉ blkOf p) (h2 : ∀ x, x ∈ al → ∀ i, i ∈ blkOf x.p → i ∉ blkOf a.p) : Args h' b te es p' c' (al ++ [a]) := by
  have hp' : ∀ i, i ∈ blkOf p' → i ∈ blkOf p ∨ h.size ≤ i := by
    intro i hi
    rcases hp with rfl | ⟨x, rfl, hx⟩
    · exact .inl hi
    · simp [blkOf] at hi; right; omega
  refine ⟨by rw [List.length_append, List.map_append]; exact o, fun x hx => ?_, fun x hx i hi hh => ?_, List.pairwise_append.2 ⟨A.pp, by simp, fun x hx y hy i hi => ?_⟩⟩
  · rcases List.mem_append.1 hx with hx | hx
    · exact (A.inn x hx).keep' k fun i hi => A.po x hx i hi
    · have hx : x = a := by simpa using hx
      subst hx
      exact ha.keep' k h1
  · rcases List.mem_append.1 hx with hx | hx
    · rcases hp' i hh with h' | h'
      · exact A.po x hx i hi h'
      · have := ((A.inn x hx).blk hi).2; omega
    · have hx : x = a := by simpa using hx
      subst hx
      rcases hp' i hh with h' | h'
      · exact h1 i hi h'
      · have := (ha.blk hi).2; omega
  · have hy : y = a := by simpa using hy
    subst hy
    exact h2 x hx i hi
/-- The last list grows. -/
theorem Args.last {h h' h'' : Hp} {b : Nat} {te es : TypeId} {p : Option Addr} {c : Nat} {dn : List In} {a a' : In} (A : Args h b te es p c (dn ++ [a])) (ha : SL h' b es 4 a'.p a'.l a'.c (a'.ts.map enc)) (k : Ch (blkOf a.p) h h') (hp : a'.p = a.p ∨ ∃ x, a'.p = some x ∧ h.size ≤ x.block)
    (o : SL h'' b te 1 p (dn ++ [a]).length c (((dn ++ [a]).map In.val).set dn.length a'.val)) (k' : Ch (blkOf p) h' h'') : Args h'' b te es p c (dn ++ [a']) := by
  have hp' : ∀ i, i ∈ blkOf a'.p → i ∈ blkOf a.p ∨ h.size ≤ i := by
    intro i hi
    rcases hp with hp | ⟨x, hp, hx⟩
    · rw [hp] at hi; exact .inl hi
    · rw [hp] at hi; simp [blkOf] at hi; right; omega
  obtain ⟨A1, A2, A3, A4⟩ := A
  have hpp := List.pairwise_append.1 A4
  have hset : ((dn ++ [a]).map In.val).set dn.length a'.val = (dn ++ [a']).map In.val := by
    rw [List.map_append, List.map_append, List.set_append_right _ _ (by simp)]
    simp
  rw [hset] at o
  have pa : ∀ i, i ∈ blkOf a.p → i ∉ blkOf p := A3 a (by simp)
  have pa' : ∀ i, i ∈ blkOf a'.p → i ∉ blkOf p := by
    intro i hi hh
    rcases hp' i hi with h1 | h1
    · exact pa i h1 hh
    · have := (A1.blk hh).2; omega
  refine ⟨by simpa using o, fun x hx => ?_, fun x hx i hi => ?_, List.pairwise_append.2 ⟨hpp.1, by simp, fun x hx y hy i hi hh => ?_⟩⟩
  · rcases List.mem_append.1 hx with hx | hx
    · exact ((A2 x (by simp [hx])).keep' k fun i hi => hpp.2.2 x hx a (by simp) i hi).keep' k' fun i hi => A3 x (by simp [hx]) i hi
    · have hx : x = a' := by simpa using hx
      subst hx
      exact ha.keep' k' pa'
  · rcases List.mem_append.1 hx with hx | hx
    · exact A3 x (by simp [hx]) i hi
    · have hx : x = a' := by simpa using hx
      subst hx
      exact pa' i hi
  · have hy : y = a' := by simpa using hy
    subst hy
    rcases hp' i hh with h1 | h1
    · exact hpp.2.2 x hx a (by simp) i hi h1
    · have := ((A2 x (by simp [hx])).blk hi).2; omega
/-- Tokens that lie in a heap, to be read. -/
structure Vw (h : Hp) (p : Option Addr) (l c : Nat) (us : List Tok) : Prop where
  len : l = us.length
  cap : l ≤ c
  cells : ∀ i, (hi : i < us.length) → ∃ a, p = some a ∧ cellsAt h (a.add (i * 4)) 0 (enc us[i])
theorem Vw.keep {ws : List Nat} {h h' : Hp} {p : Option Addr} {l c : Nat} {us : List Tok} (v : Vw h p l c us) (k : Ch ws h h') (hw : ∀ i, i ∈ blkOf p → i ∉ ws) : Vw h' p l c us :=
  ⟨v.len, v.cap, fun i hi => by
    obtain ⟨a, ha, hc⟩ := v.cells i hi
    exact ⟨a, ha, cellsAt_keep k (by rw [add_block]; exact hw _ (by rw [ha]; simp [blkOf])) _ _ hc⟩⟩
theorem SL.vw {h : Hp} {b : Nat} {e : TypeId} {p : Option Addr} {l c : Nat} {us : List Tok} (s : SL h b e 4 p l c (us.map enc)) : Vw h p l c us := by
  refine ⟨by rw [s.1, List.length_map], ?_, fun i hi => ?_⟩
  · cases p with
    | none =>
      have h1 := s.1
      rw [s.2.2.2, List.length_nil] at h1
      omega
    | some a => obtain ⟨_, _, _, _, _, hh, _⟩ := s.2.2; exact hh.1
  · obtain ⟨a, ha, hc⟩ := s.cells (i := i) (by simpa using hi)
    rw [List.getElem_map] at hc
    exact ⟨a, ha, hc⟩
theorem add_add (a : Addr) (i j : Nat) : (a.add i).add j = a.add (i + j) := by
  unfold Addr.add
  by_cases hi : i = 0 <;> by_cases hj : j = 0 <;> simp [hi, hj] <;> omega
theorem Vw.drop {h : Hp} {p : Option Addr} {l c : Nat} {us : List Tok} (v : Vw h p l c us) {k : Nat} (hk : k ≤ l) : Vw h (if c = k then p else p.map fun a => a.add (k * 4)) (l - k) (c - k) (us.drop k) := by
  have := v.len
  have := v.cap
  refine ⟨by rw [List.length_drop]; omega, by omega, fun i hi => ?_⟩
  rw [List.length_drop] at hi
  rw [if_neg (by omega)]
  obtain ⟨a, rfl, hc⟩ := v.cells (k + i) (by omega)
  refine ⟨_, rfl, ?_⟩
  rw [add_add, ← Nat.add_mul, List.getElem_drop]
  exact hc
end Go.Sx

set_option linter.unusedVariables false
set_option linter.unusedSimpArgs false
set_option maxRecDepth 100000
namespace Go.Sx
open Go.Proofs
abbrev PRes := Except Nat (Lin × List Tok)
def negB (b : Bool) (x : Lin) : Lin := if b = true then linT x 4294967295 else x
def linZ : Lin := ⟨[], 0⟩
/-- What is right of a Lin. -/
structure Good (x : Lin) : Prop where
  nf : Nf x.terms
  legal : ∀ t, t ∈ x.terms → legalL t.1.data.toList = true
  num : x.num < 4294967296
theorem legal_size {s : ByteArray} (h : legalL s.data.toList = true) : s.size ≤ 32 := by
  unfold legalL at h
  simp only [Bool.and_eq_true, decide_eq_true_eq] at h
  have : s.data.toList.length = s.size := by simp
  omega
theorem Good.size {x : Lin} (g : Good x) : ∀ t, t ∈ x.terms → t.1.size ≤ maxLen := fun t ht => by
  have := legal_size (g.legal t ht)
  unfold maxLen; omega
theorem Good.z : Good linZ := ⟨Nf.nil, by simp [linZ], by simp [linZ]⟩
theorem Good.T {x : Lin} (g : Good x) (n : Nat) : Good (linT x n) :=
  ⟨timesN_nf g.nf, fun t ht => by obtain ⟨p, hp, e⟩ := mem_timesN ht; rw [← e]; exact g.legal p hp, Nat.mod_lt _ (by decide)⟩
theorem Good.A {x y : Lin} (g : Good x) (k : Good y) : Good (linA x y) :=
  ⟨addM_nf g.nf k.nf, fun t ht => by
    rcases mem_addM ht with ⟨p, hp, e⟩ | ⟨p, hp, e⟩
    · rw [← e]; exact g.legal p hp
    · rw [← e]; exact k.legal p hp, Nat.mod_lt _ (by decide)⟩
theorem Good.neg {x : Lin} (g : Good x) (b : Bool) : Good (negB b x) := by
  unfold negB
  split
  · exact g.T _
  · exact g
/-- A token as the lexer hands it on. -/
structure WfT (t : Tok) : Prop where
  num : t.num < 4294967296
  name : t.kind = 1 → t.num = 0 ∧ legalL t.text.data.toList = !(regL t.text.data.toList).2.2
def Wf (ts : List Tok) : Prop := ∀ t, t ∈ ts → WfT t
theorem Wf.tail {t : Tok} {r : List Tok} (w : Wf (t :: r)) : Wf r := fun u hu => w u (List.mem_cons_of_mem _ hu)
def Fine (ts : List Tok) : PRes → Prop
  | .error e => e = 20 ∨ e = 21
  | .ok (x, r) => Good x ∧ r <:+ ts ∧ r.length < ts.length ∧ x.terms.length + r.length ≤ ts.length
theorem Fine.cons {t : Tok} {r : List Tok} {q : PRes} (h : Fine r q) : Fine (t :: r) q := by
  cases q with
  | error e => exact h
  | ok q =>
    obtain ⟨g, s, l, n⟩ := h
    exact ⟨g, s.trans (List.suffix_cons _ _), by simp only [List.length_cons]; omega, by simp only [List.length_cons]; omega⟩
end Go.Sx

set_option linter.unusedVariables false
set_option linter.unusedSimpArgs false
set_option maxRecDepth 100000
namespace Go.Sx
open Go.Proofs
abbrev ptr (a : Nat) : Value := .pointer (some ⟨a, 0, none⟩)
end Go.Sx

set_option linter.unusedVariables false
set_option linter.unusedSimpArgs false
set_option maxRecDepth 100000
namespace Go.Sx
open Go.Proofs
end Go.Sx

set_option linter.unusedVariables false
set_option linter.unusedSimpArgs false
set_option maxRecDepth 100000
namespace Go.Sx
open Go.Proofs
end Go.Sx

set_option linter.unusedVariables false
set_option linter.unusedSimpArgs false
set_option maxRecDepth 100000
namespace Go.Sx
open Go.Proofs
end Go.Sx

set_option linter.unusedVariables false
set_option linter.unusedSimpArgs false
set_option maxRecDepth 100000
namespace Go.Sx
open Go.Proofs
theorem encT_cells {h : Hp} {b : Addr} {t : ByteArray × Nat} (hc : cellsAt h b 0 (encT t)) : cellsAt h b 0 [.string t.1] ∧ cellsAt h (b.add 1) 0 [.int .u32 (t.2 : Int)] := by
  obtain ⟨h1, h2, h3⟩ := hc
  exact ⟨⟨h1, trivial⟩, ⟨by rw [add_add]; exact h2, trivial⟩⟩
end Go.Sx

set_option linter.unusedVariables false
set_option linter.unusedSimpArgs false
set_option maxRecDepth 100000
namespace Go.Sx
open Go.Proofs
theorem leB (a b : ByteArray) : (Op.bytesLess (ByteArray.toList a) (ByteArray.toList b) || (ByteArray.toList a == ByteArray.toList b)) = !decide (ltN b a) := by
  rw [ByteArray.toList_eq, ByteArray.toList_eq, Proofs.bytesLess_eq]
  by_cases h : ltN b a
  · rw [decide_eq_true h]
    have h1 : ¬ a.data.toList < b.data.toList := ltN_asymm h
    have h2 : ¬ a.data.toList = b.data.toList := fun e => ltN_ne h (ba_ext e).symm
    have h3 : ¬ a.data = b.data := fun e => h2 (by rw [e])
    simp [h1, h3]
  · rw [decide_eq_false h]
    by_cases h1 : ltN a b
    · have h1 : a.data.toList < b.data.toList := h1
      simp [h1]
    · have := ltN_tri a b h1 h
      subst this
      simp
/-- Terms that are right. -/
def rtR : Option ByteArray → Tms → Bool
  | _, [] => true
  | o, t :: r => legalL t.1.data.toList && decide (t.2 ≠ 0) && (match o with
    | none => true
    | some s => decide (ltN s t.1)) && rtR (some t.1) r
def pvN (l : Tms) (i : Nat) : Option ByteArray := if i = 0 then none else (l[i - 1]?).map (·.1)
theorem rtR_ge {o : Option ByteArray} {l : Tms} (h : rtR o l = true) : (∀ t, t ∈ l → legalL t.1.data.toList = true ∧ t.2 ≠ 0) ∧ (l.Pairwise fun p q => ltN p.1 q.1) ∧ ∀ s, o = some s → ∀ t, t ∈ l → ltN s t.1 := by
  induction l generalizing o with
  | nil => exact ⟨by simp, List.Pairwise.nil, by simp⟩
  | cons t r ih =>
    unfold rtR at h
    simp only [Bool.and_eq_true, decide_eq_true_eq] at h
    obtain ⟨⟨⟨h1, h2⟩, h3⟩, h4⟩ := h
    obtain ⟨i1, i2, i3⟩ := ih h4
    refine ⟨?_, List.pairwise_cons.2 ⟨fun q hq => i3 _ rfl q hq, i2⟩, ?_⟩
    · intro u hu
      rcases List.mem_cons.1 hu with rfl | hu
      · exact ⟨h1, h2⟩
      · exact i1 u hu
    · rintro s rfl u hu
      have h3 : ltN s t.1 := by simpa using h3
      rcases List.mem_cons.1 hu with rfl | hu
      · exact h3
      · exact ltN_trans h3 (i3 _ rfl u hu)
theorem right63_hc {h : Hp} {p : Option Addr} {l c : Nat} {x : Lin} (v : VwT h p l x.terms) (hl : x.terms.length ≤ 9223372036854775807) (hs : ∀ t, t ∈ x.terms → t.1.size ≤ maxLen) :
    HC Tryz.prog 70 #[linV p l c x] h fun w h' => w = .bool (rtR none x.terms) ∧ Ext h h' := by
  refine hcr_of (args := [.agg #[.slice p l c, .int .u32 x.num]]) mixed Tryz.func70 (by kernel_rfl) (t_expr_Right_eq p l c x.num) ?_
  unfold t_expr_Right
  have hll := v.len
  refine newB ?_
  intro h1 b1 e1 z1
  refine loads_box b1 ((p, l, c), ()) rfl ?_
  dsimp only [flat, unc, unc1, List.nil_append, List.cons_append]
  refine loop_of (cs := [(false, [.bool]), (false, [.int .i64])]) (fun y w h' => ∃ (i : Nat), y.2.1 = (i : Int) ∧ i ≤ x.terms.length ∧ w = x.terms.length - i ∧ Ext h1 h' ∧ rtR none x.terms = rtR (pvN x.terms i) (x.terms.drop i)) (false, (0 : Int), ()) x.terms.length rfl
    ⟨0, rfl, by omega, by omega, Ch.refl _ _, rfl⟩ ?_
  rintro ⟨b8, n8, ⟨⟩⟩ w h2 ⟨i, hi, hile, rfl, e2, hq⟩
  simp only at hi
  subst hi
  dsimp only [flat, unc, unc1, List.nil_append, List.cons_append]
  have e02 := e1.trans e2
  refine cond_mk (fun g1 => ?_) (fun g1 => ?_)
  · have g1 := of_decide_eq_true g1
    have hilt : i < x.terms.length := by omega
    have v2 := v.keep e02 (by simp)
    obtain ⟨a, rfl, hc⟩ := v2.cells i hilt
    have hdr : x.terms.drop i = x.terms[i] :: x.terms.drop (i + 1) := List.drop_eq_getElem_cons hilt
    have hpv : pvN x.terms (i + 1) = some x.terms[i].1 := by
      unfold pvN
      rw [if_neg (by omega), Nat.add_sub_cancel, List.getElem?_eq_getElem hilt]
      rfl
    have hsz := hs x.terms[i] (List.getElem_mem hilt)
    rw [hdr] at hq
    generalize x.terms[i] = t at hc hq hpv hsz
    refine need_of ⟨by omega, by omega⟩ (osome_mk rfl ?_)
    rw [show Int.toNat (i : Int) = i by omega]
    refine loads_of (t.1, (t.2 : Int), ()) hc ?_
    dsimp only [flat, unc, unc1, List.nil_append, List.cons_append]
    refine newB ?_
    intro h3 b3 e3 z3
    refine stores_of b3 rfl (by simp) ?_
    intro h4 b4 k4 z4
    have b4 : Box h4 h2.size 104 [.string t.1, .int .u32 t.2] := b4
    have e24 : Ext h2 h4 := Ch.trans e3 k4 (fun j hj hl => by simp at hj; omega)
    have e04 := e02.trans e24
    rw [add_box]
    refine loads_box b4 ((t.2 : Int), ()) rfl ?_
    dsimp only [flat, unc, unc1, List.nil_append, List.cons_append]
    refine cond_mk (fun g2 => ?_) (fun g2 => ?_)
    · have g2 : t.2 = 0 := by have : (t.2 : Int) = 0 := by simpa using g2
                              omega
      refine ⟨?_, e04⟩
      rw [hq]
      unfold rtR
      rw [decide_eq_false (by omega)]
      simp
    · have g2 : t.2 ≠ 0 := by have : ¬ (t.2 : Int) = 0 := by simpa using g2
                              omega
      refine loads_box b4 (t.1, ()) rfl ?_
      dsimp only [flat, unc, unc1, List.nil_append, List.cons_append]
      refine call_bool (legal_hc t.1 h4 (by have : maxLen = 9223372036854775807 := rfl; omega)) ?_
      refine ⟨⟨b4.cells _ rfl, trivial⟩, ?_⟩
      refine cond_mk (fun g3 => ?_) (fun g3 => ?_)
      · have g3 : legalL t.1.data.toList = false := by simpa using g3
        refine ⟨?_, e04⟩
        rw [hq]
        unfold rtR
        rw [g3]
        simp
      · have g3 : legalL t.1.data.toList = true := by simpa using g3
        have hw : IntKind.wrap .i64 ((i : Int) + 1) = ((i + 1 : Nat) : Int) := by rw [wrap_i64 (by omega) (by omega)]; omega
        have hgo : (match pvN x.terms i with
            | none => true
            | some s => decide (ltN s t.1)) = true → rtR none x.terms = rtR (pvN x.terms (i + 1)) (x.terms.drop (i + 1)) := by
          intro hm
          rw [hq, hpv]
          conv => lhs; unfold rtR
          rw [g3, decide_eq_true g2, hm]
          rfl
        refine cond_mk (fun g4 => ?_) (fun g4 => ?_)
        · have g4 := of_decide_eq_true g4
          have hw1 : IntKind.wrap .i64 ((i : Int) - 1) = ((i - 1 : Nat) : Int) := by rw [wrap_i64 (by omega) (by omega)]; omega
          have hi1 : i - 1 < x.terms.length := by omega
          obtain ⟨a', ha', hc'⟩ := (v.keep e04 (by simp)).cells (i - 1) hi1
          cases ha'
          have hpi : pvN x.terms i = some x.terms[i - 1].1 := by
            unfold pvN
            rw [if_neg (by omega), List.getElem?_eq_getElem hi1]
            rfl
          rw [hpi] at hgo hq
          generalize x.terms[i - 1] = u at hc' hpi hgo hq
          refine loads_box b4 (t.1, ()) rfl ?_
          dsimp only [flat, unc, unc1, List.nil_append, List.cons_append]
          refine loads_box ((b1.keep e2 (by simp)).keep e24 (by simp)) ((some a, l, c), ()) rfl ?_
          dsimp only [flat, unc, unc1, List.nil_append, List.cons_append]
          rw [hw1]
          refine need_of ⟨by omega, by omega⟩ (osome_mk rfl ?_)
          rw [show Int.toNat ((i - 1 : Nat) : Int) = i - 1 by omega]
          refine loads_of (u.1, ()) (encT_cells hc').1 ?_
          dsimp only [flat, unc, unc1, List.nil_append, List.cons_append]
          rw [leB]
          refine cond_mk (fun g5 => ?_) (fun g5 => ?_)
          · have g5 : ¬ ltN u.1 t.1 := by simpa using g5
            refine ⟨?_, e04⟩
            rw [hq]
            unfold rtR
            dsimp only
            rw [decide_eq_false g5]
            simp
          · have g5 : ltN u.1 t.1 := by simpa using g5
            exact again_mk (cs := [(false, [.bool]), (false, [.int .i64])]) (b8, ((i + 1 : Nat) : Int), ()) (x.terms.length - (i + 1)) rfl (by omega) (congrArg (fun z => [Value.bool b8, Value.int .i64 z]) hw) ⟨i + 1, rfl, by omega, rfl, e2.trans e24, hgo (decide_eq_true g5)⟩
        · have g4 := of_decide_eq_false g4
          have hi0 : i = 0 := by omega
          subst hi0
          exact again_mk (cs := [(false, [.bool]), (false, [.int .i64])]) (b8, ((0 + 1 : Nat) : Int), ()) (x.terms.length - (0 + 1)) rfl (by omega) (congrArg (fun z => [Value.bool b8, Value.int .i64 z]) hw) ⟨0 + 1, rfl, by omega, rfl, e2.trans e24, hgo rfl⟩
  · have g1 := of_decide_eq_false g1
    have hi : i = x.terms.length := by omega
    subst hi
    refine ⟨?_, e02⟩
    rw [hq, List.drop_length]
    rfl
end Go.Sx

set_option linter.unusedVariables false
set_option maxRecDepth 100000
namespace Go.Sx.Ob
abbrev Bt := List UInt8
/-- A number's lowest bytes, the lowest first. -/
def bytB : Nat → Nat → Bt
  | _, 0 => []
  | n, w + 1 => UInt8.ofNat n :: bytB (n / 256) w
def numB : Bt → Nat
  | [] => 0
  | b :: l => b.toNat + 256 * numB l
theorem bytB_length : ∀ (w n : Nat), (bytB n w).length = w
  | 0, _ => rfl
  | w + 1, n => by rw [bytB, List.length_cons, bytB_length w]
theorem numB_bytB : ∀ (w n : Nat), numB (bytB n w) = n % 256 ^ w
  | 0, n => by simp [bytB, numB, Nat.mod_one]
  | w + 1, n => by
    rw [bytB, numB, numB_bytB w, Nat.pow_succ, Nat.mul_comm (256 ^ w) 256, Nat.mod_mul]
    congr 1
theorem bytB_numB : ∀ l : Bt, bytB (numB l) l.length = l
  | [] => rfl
  | b :: l => by
    rw [numB, List.length_cons, bytB]
    have h1 : (b.toNat + 256 * numB l) / 256 = numB l := by have := b.toNat_lt; omega
    have h2 : UInt8.ofNat (b.toNat + 256 * numB l) = b := by
      apply UInt8.toNat_inj.1
      have := b.toNat_lt
      simp
    rw [h1, h2, bytB_numB l]
theorem numB_lt : ∀ l : Bt, numB l < 256 ^ l.length
  | [] => by simp [numB]
  | b :: l => by
    rw [numB, List.length_cons, Nat.pow_succ]
    have := numB_lt l
    have := b.toNat_lt
    omega
theorem bytB_mod : ∀ (w n : Nat), bytB (n % 256 ^ w) w = bytB n w := by
  intro w n
  have h := numB_bytB w n
  have := bytB_numB (bytB n w)
  rw [bytB_length, h] at this
  exact this
/-! Readers: what is read, and what is behind it; or a refusal: how many bytes are behind its place, and why. -/
abbrev Rd (α : Type) := Except (Nat × Nat) (α × Bt)
def andR {α β : Type} (a : Rd α) (f : α → Bt → Rd β) : Rd β :=
  match a with
  | .ok p => f p.1 p.2
  | .error e => .error e
@[simp] theorem andR_okk {α β : Type} (x : α) (r : Bt) (f : α → Bt → Rd β) : andR (.ok (x, r)) f = f x r := rfl
@[simp] theorem andR_err {α β : Type} (e : Nat × Nat) (f : α → Bt → Rd β) : andR (.error e) f = .error e := rfl
theorem andR_ok {α β : Type} {a : Rd α} {f : α → Bt → Rd β} {q : β × Bt} (h : andR a f = .ok q) : ∃ x r, a = .ok (x, r) ∧ f x r = .ok q := by
  cases a with
  | error e => cases h
  | ok p => exact ⟨p.1, p.2, rfl, h⟩
def numR (w : Nat) (r : Bt) : Rd Nat := if w ≤ r.length then .ok (numB (r.take w), r.drop w) else .error (0, 10)
def textR (r : Bt) : Rd ByteArray := andR (numR 2 r) fun n r => if n ≤ r.length then .ok (⟨(r.take n).toArray⟩, r.drop n) else .error (0, 10)
def termsR : Nat → Bt → Rd Tms
  | 0, r => .ok ([], r)
  | n + 1, r => andR (textR r) fun s r => andR (numR 4 r) fun c r => andR (termsR n r) fun ts r => .ok ((s, c) :: ts, r)
def linR (r : Bt) : Rd Lin := andR (numR 2 r) fun n r => andR (termsR n r) fun ts r => andR (numR 4 r) fun c r => .ok (⟨ts, c⟩, r)
/-! Writers. -/
def wText (s : ByteArray) : Bt := bytB s.size 2 ++ s.data.toList
def wTerm (t : ByteArray × Nat) : Bt := wText t.1 ++ bytB t.2 4
def wLin (x : Lin) : Bt := bytB x.terms.length 2 ++ (x.terms.flatMap wTerm ++ bytB x.num 4)
theorem numR_app (w n : Nat) (t : Bt) : numR w (bytB n w ++ t) = .ok (n % 256 ^ w, t) := by
  unfold numR
  rw [if_pos (by rw [List.length_append, bytB_length]; omega), List.take_left' (bytB_length w n), List.drop_left' (bytB_length w n), numB_bytB]
theorem numR_ok {w : Nat} {r r' : Bt} {n : Nat} (h : numR w r = .ok (n, r')) : r = bytB n w ++ r' ∧ n < 256 ^ w := by
  unfold numR at h
  split at h
  · rename_i hw
    simp only [Except.ok.injEq, Prod.mk.injEq] at h
    obtain ⟨rfl, rfl⟩ := h
    have hl : (r.take w).length = w := by rw [List.length_take]; omega
    refine ⟨?_, ?_⟩
    · conv => rhs; arg 1; arg 2; rw [← hl]
      rw [bytB_numB, List.take_append_drop]
    · have := numB_lt (r.take w)
      rw [hl] at this
      exact this
  · cases h
theorem textR_app {s : ByteArray} (h : s.size < 65536) (t : Bt) : textR (wText s ++ t) = .ok (s, t) := by
  unfold textR wText
  rw [List.append_assoc, numR_app, andR_okk, Nat.mod_eq_of_lt (by omega)]
  have hl : s.data.toList.length = s.size := by simp
  rw [if_pos (by rw [List.length_append, hl]; omega), List.take_left' hl, List.drop_left' hl]
theorem textR_ok {r r' : Bt} {s : ByteArray} (h : textR r = .ok (s, r')) : r = wText s ++ r' ∧ s.size < 65536 := by
  unfold textR at h
  obtain ⟨n, r1, hn, h⟩ := andR_ok h
  split at h
  · rename_i hl
    simp only [Except.ok.injEq, Prod.mk.injEq] at h
    obtain ⟨rfl, rfl⟩ := h
    obtain ⟨h1, h2⟩ := numR_ok hn
    have hsz : (⟨(r1.take n).toArray⟩ : ByteArray).size = n := by show (r1.take n).toArray.size = n; simp; omega
    refine ⟨?_, by rw [hsz]; omega⟩
    unfold wText
    rw [hsz, h1]
    simp
  · cases h
theorem termsR_app : ∀ (ts : Tms) (t : Bt), (∀ u, u ∈ ts → u.1.size < 65536 ∧ u.2 < 4294967296) → termsR ts.length (ts.flatMap wTerm ++ t) = .ok (ts, t)
  | [], t, _ => rfl
  | u :: ts, t, h => by
    obtain ⟨h1, h2⟩ := h u (by simp)
    rw [List.flatMap_cons, List.length_cons, termsR]
    unfold wTerm
    rw [List.append_assoc, List.append_assoc, textR_app h1, andR_okk, numR_app, andR_okk]
    have := termsR_app ts t fun v hv => h v (List.mem_cons_of_mem _ hv)
    unfold wTerm at this
    rw [this, andR_okk, Nat.mod_eq_of_lt (by omega)]
/-- Sums that can be laid. -/
structure LinFit (x : Lin) : Prop where
  many : x.terms.length < 65536
  terms : ∀ u, u ∈ x.terms → u.1.size < 65536 ∧ u.2 < 4294967296
  num : x.num < 4294967296
theorem linR_app {x : Lin} (h : LinFit x) (t : Bt) : linR (wLin x ++ t) = .ok (x, t) := by
  unfold linR wLin
  rw [List.append_assoc, List.append_assoc, numR_app, andR_okk, Nat.mod_eq_of_lt (by have := h.many; omega), termsR_app _ _ h.terms, andR_okk, numR_app, andR_okk,
    Nat.mod_eq_of_lt (by have := h.num; omega)]
end Go.Sx.Ob

set_option linter.unusedVariables false
set_option maxRecDepth 100000
namespace Go.Sx.Ob
structure Ins where
  op : Int
  a : Int
  b : Int
  n : Int
  form : Int
deriving DecidableEq
structure Itm where
  kind : Int
  name : ByteArray
  inst : Ins
  e : Lin
  n : Int
def ins0 : Ins := ⟨0, 0, 0, 0, 0⟩
def lin0 : Lin := ⟨[], 0⟩
def nam0 : ByteArray := ⟨#[]⟩
def itm (k : Int) : Itm := ⟨k, nam0, ins0, lin0, 0⟩
def shpL : List Nat := [1, 1, 1, 2, 2, 2, 2, 2, 2, 2, 3, 3, 4, 4, 4, 4, 4, 4, 4, 4, 4, 4, 4, 4, 4, 4, 4, 4, 5, 5, 5, 5, 6, 6, 7, 8, 9, 10, 11, 12, 12, 13, 13]
/-- An operation's shape; 0: there is no such operation. -/
def shp (op : Int) : Nat := if op < 1 then 0 else shpL.getD (op - 1).toNat 0
def blw (n m : Int) : Bool := decide (0 ≤ n) && decide (n < m)
def regsR (s : Nat) (a b n : Int) : Bool :=
  if s = 1 ∨ s = 9 ∨ s = 12 then decide (a = 0) && decide (b = 0)
  else if s = 2 ∨ s = 8 ∨ s = 10 ∨ s = 11 ∨ s = 13 then blw a 8 && decide (b = 0)
  else if s = 3 then blw a 4 && decide (b = 0)
  else if s = 4 then blw a 8 && blw b 8
  else if s = 5 then blw a 4 && blw b 4
  else if s = 6 then blw a 8 && blw b 4
  else blw a 4 && blw b 8 && blw n 8
def nReach (n form : Int) : Bool :=
  if form = 1 then decide (-128 ≤ n) && decide (n ≤ 127)
  else if form = 2 then decide (-32768 ≤ n) && decide (n ≤ 32767)
  else decide (form = 4)
def nR (s : Nat) (n form : Int) : Bool :=
  if s = 8 then nReach n 1
  else if s = 9 then decide (0 ≤ n) && decide (n ≤ 255)
  else if s = 10 ∨ s = 7 then true
  else if s = 11 then decide (0 ≤ n) && decide (n ≤ 4095)
  else if s = 12 ∨ s = 13 then nReach n form
  else decide (n = 0)
def spn (op : Int) : Bool := decide (12 ≤ shp op)
def wnt (op : Int) : Bool := decide (10 ≤ shp op)
def chkR (i : Ins) : Int :=
  if shp i.op = 0 then 11
  else if regsR (shp i.op) i.a i.b i.n = false then 12
  else if (!spn i.op && decide (i.form ≠ 0) || !nR (shp i.op) i.n i.form) = true then 13
  else 0
def isZ (x : Lin) : Bool := decide (x.terms = []) && decide (x.num = 0)
def insR (i : Ins) (e : Lin) : Bool :=
  decide (shp i.op ≠ 0) && decide (i.form = 0) && (if wnt i.op then decide (i.n = 0) && decide (chkR { i with form := if spn i.op then 1 else 0 } = 0) && rtR none e.terms
    else decide (chkR i = 0) && isZ e)
def pow2 (n : Int) : Bool := decide (n = 1) || decide (n = 2) || decide (n = 4) || decide (n = 8) || decide (n = 16) || decide (n = 32) || decide (n = 64) || decide (n = 128) || decide (n = 256)
def z1 (x : Itm) : Bool := decide (x.name = nam0)
def z2 (x : Itm) : Bool := decide (x.inst = ins0)
def z3 (x : Itm) : Bool := isZ x.e
def z4 (x : Itm) : Bool := decide (x.n = 0)
/-- Right, in section 0 or 1. -/
def itmR (x : Itm) (sec : Nat) : Bool :=
  if x.kind = 1 then legalL x.name.data.toList && z2 x && z3 x && z4 x
  else if x.kind = 2 then decide (sec = 0) && insR x.inst x.e && z1 x && z4 x
  else if x.kind = 3 then pow2 x.n && z1 x && z2 x && z3 x
  else if x.kind = 4 then decide (sec = 0) && z1 x && z2 x && z3 x && z4 x
  else if x.kind = 5 then decide (sec = 1) && decide (-128 ≤ x.n) && decide (x.n ≤ 255) && z1 x && z2 x && z3 x
  else if x.kind = 6 then decide (sec = 1) && rtR none x.e.terms && z1 x && z2 x && z4 x
  else if x.kind = 7 then decide (sec = 1) && decide (0 ≤ x.n) && decide (x.n ≤ 1048576) && z1 x && z2 x && z3 x
  else false
/-! Bytes. -/
def u32 (n : Int) : Nat := (n % 4294967296).toNat
def s32 (n : Nat) : Int := if n < 2147483648 then (n : Int) else (n : Int) - 4294967296
def s16 (n : Nat) : Int := if n < 32768 then (n : Int) else (n : Int) - 65536
def wInt (n : Int) (w : Nat) : Bt := bytB (u32 n) w
def wItm (x : Itm) : Bt := wInt x.kind 1 ++
  (if x.kind = 1 then wText x.name
  else if x.kind = 2 then wInt x.inst.op 1 ++ (wInt x.inst.a 1 ++ (wInt x.inst.b 1 ++ (wInt x.inst.n 4 ++ if wnt x.inst.op then wLin x.e else [])))
  else if x.kind = 3 ∨ x.kind = 5 then wInt x.n 2
  else if x.kind = 6 then wLin x.e
  else if x.kind = 7 then wInt x.n 4
  else [])
def insB (r : Bt) : Rd Itm := andR (numR 1 r) fun op r => andR (numR 1 r) fun a r => andR (numR 1 r) fun b r => andR (numR 4 r) fun n r =>
  if wnt (op : Int) then andR (linR r) fun e r => .ok ({ itm 2 with inst := ⟨op, a, b, s32 n, 0⟩, e := e }, r) else .ok ({ itm 2 with inst := ⟨op, a, b, s32 n, 0⟩ }, r)
def itmB (k : Nat) (r : Bt) : Rd Itm :=
  if k = 1 then andR (textR r) fun s r => .ok ({ itm 1 with name := s }, r)
  else if k = 2 then insB r
  else if k = 3 then andR (numR 2 r) fun n r => .ok ({ itm 3 with n := n }, r)
  else if k = 5 then andR (numR 2 r) fun n r => .ok ({ itm 5 with n := s16 n }, r)
  else if k = 6 then andR (linR r) fun e r => .ok ({ itm 6 with e := e }, r)
  else if k = 7 then andR (numR 4 r) fun n r => .ok ({ itm 7 with n := n }, r)
  else .ok (itm k, r)
/-- What is wrong is told at the place where the thing begins. -/
def at_ {α : Type} (r : Bt) (why : Nat) (ok : α → Bool) (a : Rd α) : Rd α := andR a fun x r' => if ok x then .ok (x, r') else .error (r.length, why)
def inN (D : List ByteArray) (s : ByteArray) : Bool := D.any fun t => decide (t = s)
def itmOk (sec : Nat) (D : List ByteArray) (x : Itm) : Bool := itmR x sec && !(decide (x.kind = 1) && inN D x.name)
def addN (D : List ByteArray) (x : Itm) : List ByteArray := if x.kind = 1 then x.name :: D else D
def itemR (sec : Nat) (D : List ByteArray) (r : Bt) : Rd Itm := at_ r 31 (itmOk sec D) (andR (numR 1 r) itmB)
theorem at_app {α : Type} {r r' : Bt} {why : Nat} {ok : α → Bool} {a : Rd α} {x : α} (h : a = .ok (x, r')) (h2 : ok x = true) : at_ r why ok a = .ok (x, r') := by
  unfold at_
  rw [h, andR_okk, if_pos h2]
/-- What a machine can hold: numbers of 32 bits. -/
structure LinSm (x : Lin) : Prop where
  many : x.terms.length < 65536
  coef : ∀ u, u ∈ x.terms → u.2 < 4294967296
  num : x.num < 4294967296
theorem rtR_fit {x : Lin} (h : rtR none x.terms = true) (s : LinSm x) : LinFit x := by
  refine ⟨s.many, fun u hu => ⟨?_, s.coef u hu⟩, s.num⟩
  have := ((rtR_ge h).1 u hu).1
  unfold legalL at this
  simp only [Bool.and_eq_true, decide_eq_true_eq] at this
  have h2 := this.1.1.1.2
  have : u.1.data.toList.length = u.1.size := by simp
  omega
theorem legal_fit {s : ByteArray} (h : legalL s.data.toList = true) : s.size < 65536 := by
  unfold legalL at h
  simp only [Bool.and_eq_true, decide_eq_true_eq] at h
  have h2 := h.1.1.1.2
  have : s.data.toList.length = s.size := by simp
  omega
theorem isZ_eq {x : Lin} (h : isZ x = true) : x = lin0 := by
  obtain ⟨ts, n⟩ := x
  unfold isZ at h
  simp only [Bool.and_eq_true, decide_eq_true_eq] at h
  obtain ⟨rfl, rfl⟩ := h
  rfl
theorem numR_wInt {n : Int} {w : Nat} (h0 : 0 ≤ n) (h : n < 256 ^ w) (hw : w ≤ 4) (t : Bt) : numR w (wInt n w ++ t) = .ok (n.toNat, t) := by
  unfold wInt
  rw [numR_app]
  have h4 : (256 : Int) ^ w ≤ 256 ^ 4 := by exact_mod_cast Nat.pow_le_pow_right (by omega) hw
  have h5 : u32 n = n.toNat := by unfold u32; rw [Int.emod_eq_of_lt h0 (by omega)]
  rw [h5, Nat.mod_eq_of_lt]
  have : ((n.toNat : Nat) : Int) < ((256 ^ w : Nat) : Int) := by rw [Int.toNat_of_nonneg h0]; push_cast; exact h
  omega
theorem s32_u32 {n : Int} (h0 : -2147483648 ≤ n) (h : n < 2147483648) : s32 (u32 n % 256 ^ 4) = n := by
  unfold s32 u32
  split <;> omega
theorem s16_u32 {n : Int} (h0 : -32768 ≤ n) (h : n < 32768) : s16 (u32 n % 256 ^ 2) = n := by
  unfold s16 u32
  split <;> omega
theorem shp_le (op : Int) (h : shp op ≠ 0) : 1 ≤ op ∧ op ≤ 43 := by
  unfold shp at h
  split at h
  · exact absurd rfl h
  · refine ⟨by omega, ?_⟩
    by_cases g : op ≤ 43
    · exact g
    · exfalso
      apply h
      rw [List.getD_eq_getElem?_getD, List.getElem?_eq_none (by simp [shpL]; omega)]
      rfl
theorem regs_le {s : Nat} {a b n : Int} (h : regsR s a b n = true) : 0 ≤ a ∧ a < 8 ∧ 0 ≤ b ∧ b < 8 := by
  unfold regsR blw at h
  repeat' split at h
  all_goals (simp only [Bool.and_eq_true, decide_eq_true_eq] at h; omega)
theorem chk_regs {i : Ins} (h : chkR i = 0) : shp i.op ≠ 0 ∧ regsR (shp i.op) i.a i.b i.n = true := by
  unfold chkR at h
  split at h
  · cases h
  · split at h
    · cases h
    · rename_i h1 h2
      exact ⟨h1, by simpa using h2⟩
end Go.Sx.Ob

set_option linter.unusedVariables false
set_option maxRecDepth 100000
namespace Go.Sx.Ob
theorem shp_cases (op : Int) : shp op = 0 ∨ (1 ≤ shp op ∧ shp op ≤ 13) := by
  by_cases h : shp op = 0
  · exact .inl h
  · right
    have h1 := shp_le op h
    unfold shp
    rw [if_neg (by omega)]
    have h2 : (op - 1).toNat < 43 := by omega
    generalize (op - 1).toNat = k at h2
    have : ∀ k : Fin 43, 1 ≤ shpL.getD k.1 0 ∧ shpL.getD k.1 0 ≤ 13 := by decide
    exact this ⟨k, h2⟩
theorem insR_fit {i : Ins} {e : Lin} (h : insR i e = true) : 1 ≤ i.op ∧ i.op ≤ 43 ∧ 0 ≤ i.a ∧ i.a < 8 ∧ 0 ≤ i.b ∧ i.b < 8 ∧ -2147483648 ≤ i.n ∧ i.n < 2147483648 ∧ i.form = 0 := by
  unfold insR at h
  simp only [Bool.and_eq_true, decide_eq_true_eq] at h
  obtain ⟨⟨h1, h2⟩, h3⟩ := h
  have ho := shp_le _ h1
  have hs := shp_cases i.op
  split at h3
  · simp only [Bool.and_eq_true, decide_eq_true_eq] at h3
    obtain ⟨⟨g1, g2⟩, g3⟩ := h3
    have := regs_le (chk_regs g2).2
    simp only at this
    omega
  · rename_i hw
    simp only [Bool.and_eq_true, decide_eq_true_eq] at h3
    obtain ⟨g1, g2⟩ := h3
    have g3 := (chk_regs g1).2
    have := regs_le g3
    have hw : ¬ 10 ≤ shp i.op := by unfold wnt at hw; simpa using hw
    refine ⟨ho.1, ho.2, this.1, this.2.1, this.2.2.1, this.2.2.2, ?_⟩
    have hn : nR (shp i.op) i.n i.form = true := by
      unfold chkR at g1
      split at g1
      · cases g1
      · split at g1
        · cases g1
        · split at g1
          · cases g1
          · rename_i hh
            simp only [Bool.or_eq_true, Bool.not_eq_true', not_or] at hh
            simpa using hh.2
    unfold nR nReach at hn
    split at hn
    · rw [if_pos rfl] at hn
      simp only [Bool.and_eq_true, decide_eq_true_eq] at hn
      omega
    split at hn
    · simp only [Bool.and_eq_true, decide_eq_true_eq] at hn
      omega
    split at hn
    · rename_i hx
      have h7 : shp i.op = 7 := by omega
      rw [h7] at g3
      unfold regsR blw at g3
      simp only [show ¬ (7 = 1 ∨ 7 = 9 ∨ 7 = 12) from by omega, show ¬ (7 = 2 ∨ 7 = 8 ∨ 7 = 10 ∨ 7 = 11 ∨ 7 = 13) from by omega, if_false, show ¬ (7 = 3) from by omega, show ¬ (7 = 4) from by omega, show ¬ (7 = 5) from by omega, show ¬ (7 = 6) from by omega] at g3
      simp only [Bool.and_eq_true, decide_eq_true_eq] at g3
      omega
    split at hn
    · omega
    split at hn
    · omega
    · simp only [decide_eq_true_eq] at hn
      omega
theorem pow2_fit {n : Int} (h : pow2 n = true) : 0 ≤ n ∧ n < 65536 := by
  unfold pow2 at h
  simp only [Bool.or_eq_true, decide_eq_true_eq] at h
  omega
theorem z2_eq {x : Itm} (h : z2 x = true) : x.inst = ins0 := of_decide_eq_true h
theorem z1_eq {x : Itm} (h : z1 x = true) : x.name = nam0 := of_decide_eq_true h
theorem z4_eq {x : Itm} (h : z4 x = true) : x.n = 0 := of_decide_eq_true h
theorem insR_z {i : Ins} {e : Lin} (h : insR i e = true) (hw : ¬ wnt i.op = true) : e = lin0 := by
  unfold insR at h
  rw [if_neg hw] at h
  simp only [Bool.and_eq_true, decide_eq_true_eq] at h
  exact isZ_eq h.2.2
theorem insR_e {i : Ins} {e : Lin} (h : insR i e = true) (hw : wnt i.op = true) : rtR none e.terms = true ∧ i.n = 0 := by
  unfold insR at h
  rw [if_pos hw] at h
  simp only [Bool.and_eq_true, decide_eq_true_eq] at h
  exact ⟨h.2.2, h.2.1.1⟩
theorem insB_app {i : Ins} {e : Lin} (h : insR i e = true) (s : LinSm e) (t : Bt) :
    insB (wInt i.op 1 ++ (wInt i.a 1 ++ (wInt i.b 1 ++ (wInt i.n 4 ++ ((if wnt i.op then wLin e else []) ++ t))))) = .ok (⟨2, nam0, i, e, 0⟩, t) := by
  obtain ⟨h1, h2, h3, h4, h5, h6, h7, h8, h9⟩ := insR_fit h
  obtain ⟨op, a, b, n, form⟩ := i
  simp only at h1 h2 h3 h4 h5 h6 h7 h8 h9
  subst h9
  unfold insB
  simp only
  rw [numR_wInt (by omega) (by omega) (by omega), andR_okk, numR_wInt (by omega) (by omega) (by omega), andR_okk, numR_wInt (by omega) (by omega) (by omega), andR_okk]
  unfold wInt
  rw [numR_app, andR_okk, s32_u32 h7 h8, Int.toNat_of_nonneg (by omega), Int.toNat_of_nonneg (by omega), Int.toNat_of_nonneg (by omega)]
  by_cases hw : wnt op = true
  · rw [if_pos hw, if_pos hw, linR_app (rtR_fit (insR_e h hw).1 s), andR_okk]
    rfl
  · rw [if_neg hw, if_neg hw, insR_z h hw]
    rfl
theorem itmB_app {x : Itm} {sec : Nat} (h : itmR x sec = true) (s : LinSm x.e) (t : Bt) : andR (numR 1 (wItm x ++ t)) itmB = .ok (x, t) := by
  obtain ⟨k, nm, i, e, n⟩ := x
  unfold itmR at h
  simp only at h
  unfold wItm
  simp only
  split at h
  · rename_i hk
    subst hk
    simp only [Bool.and_eq_true] at h
    obtain ⟨⟨⟨h1, h2⟩, h3⟩, h4⟩ := h
    rw [List.append_assoc, numR_wInt (by omega) (by omega) (by omega), andR_okk, if_pos rfl]
    unfold itmB
    rw [if_pos (by omega), textR_app (legal_fit h1), andR_okk]
    have e1 := z2_eq h2
    have e2 := isZ_eq h3
    have e3 := z4_eq h4
    simp only at e1 e2 e3
    rw [e1, e2, e3]
    rfl
  rename_i hk1
  split at h
  · rename_i hk
    subst hk
    simp only [Bool.and_eq_true] at h
    obtain ⟨⟨⟨h1, h2⟩, h3⟩, h4⟩ := h
    rw [List.append_assoc, numR_wInt (by omega) (by omega) (by omega), andR_okk, if_neg (by omega), if_pos rfl]
    unfold itmB
    rw [if_neg (by omega), if_pos (by omega)]
    have e1 := z1_eq h3
    have e3 := z4_eq h4
    simp only at e1 e3
    rw [e1, e3]
    have := insB_app h2 s t
    simp only [List.append_assoc] at this ⊢
    exact this
  rename_i hk2
  split at h
  · rename_i hk
    subst hk
    simp only [Bool.and_eq_true] at h
    obtain ⟨⟨⟨h1, h2⟩, h3⟩, h4⟩ := h
    have hp := pow2_fit h1
    rw [List.append_assoc, numR_wInt (by omega) (by omega) (by omega), andR_okk, if_neg (by omega), if_neg (by omega), if_pos (by omega)]
    unfold itmB
    rw [if_neg (by omega), if_neg (by omega), if_pos (by omega), numR_wInt (by omega) (by omega) (by omega), andR_okk]
    have e1 := z1_eq h2
    have e2 := z2_eq h3
    have e3 := isZ_eq h4
    simp only at e1 e2 e3
    rw [e1, e2, e3, Int.toNat_of_nonneg (by omega)]
    rfl
  rename_i hk3
  split at h
  · rename_i hk
    subst hk
    simp only [Bool.and_eq_true] at h
    obtain ⟨⟨⟨⟨h1, h2⟩, h3⟩, h4⟩, h5⟩ := h
    rw [List.append_assoc, numR_wInt (by omega) (by omega) (by omega), andR_okk]
    unfold itmB
    simp (decide := true) only [if_false, if_true]
    have e1 := z1_eq h2
    have e2 := z2_eq h3
    have e3 := isZ_eq h4
    have e4 := z4_eq h5
    simp only at e1 e2 e3 e4
    rw [e1, e2, e3, e4]
    rfl
  rename_i hk4
  split at h
  · rename_i hk
    subst hk
    simp only [Bool.and_eq_true, decide_eq_true_eq] at h
    obtain ⟨⟨⟨⟨⟨h1, h0⟩, h9⟩, h2⟩, h3⟩, h4⟩ := h
    rw [List.append_assoc, numR_wInt (by omega) (by omega) (by omega), andR_okk]
    unfold itmB
    simp (decide := true) only [if_false, if_true]
    unfold wInt
    rw [numR_app, andR_okk, s16_u32 (by omega) (by omega)]
    have e1 := z1_eq h2
    have e2 := z2_eq h3
    have e3 := isZ_eq h4
    simp only at e1 e2 e3
    rw [e1, e2, e3]
    rfl
  rename_i hk5
  split at h
  · rename_i hk
    subst hk
    simp only [Bool.and_eq_true, decide_eq_true_eq] at h
    obtain ⟨⟨⟨⟨h1, h0⟩, h2⟩, h3⟩, h4⟩ := h
    rw [List.append_assoc, numR_wInt (by omega) (by omega) (by omega), andR_okk]
    unfold itmB
    simp (decide := true) only [if_false, if_true]
    rw [linR_app (rtR_fit h0 s), andR_okk]
    have e1 := z1_eq h2
    have e2 := z2_eq h3
    have e3 := z4_eq h4
    simp only at e1 e2 e3
    rw [e1, e2, e3]
    rfl
  rename_i hk6
  split at h
  · rename_i hk
    subst hk
    simp only [Bool.and_eq_true, decide_eq_true_eq] at h
    obtain ⟨⟨⟨⟨⟨h1, h0⟩, h9⟩, h2⟩, h3⟩, h4⟩ := h
    rw [List.append_assoc, numR_wInt (by omega) (by omega) (by omega), andR_okk]
    unfold itmB
    simp (decide := true) only [if_false, if_true]
    rw [numR_wInt (by omega) (by omega) (by omega), andR_okk]
    have e1 := z1_eq h2
    have e2 := z2_eq h3
    have e3 := isZ_eq h4
    simp only at e1 e2 e3
    rw [e1, e2, e3, Int.toNat_of_nonneg (by omega)]
    rfl
  · cases h
end Go.Sx.Ob

set_option linter.unusedVariables false
set_option maxRecDepth 100000
namespace Go.Sx.Ob
abbrev Eqn := ByteArray × Lin
structure Unt where
  text : List Itm
  data : List Itm
  equs : List Eqn
  globs : List ByteArray
def unt0 : Unt := ⟨[], [], [], []⟩
def itemsR (sec : Nat) : Nat → List ByteArray → Bt → Rd (List Itm)
  | 0, _, r => .ok ([], r)
  | n + 1, D, r => andR (itemR sec D r) fun x r => andR (itemsR sec n (addN D x) r) fun l r => .ok (x :: l, r)
def equB (r : Bt) : Rd Eqn := andR (textR r) fun s r => andR (linR r) fun e r => .ok ((s, e), r)
def equOk (D : List ByteArray) (p : Eqn) : Bool := !(inN D p.1) && legalL p.1.data.toList && rtR none p.2.terms
def equR (D : List ByteArray) (r : Bt) : Rd Eqn := at_ r 31 (equOk D) (equB r)
def equsR : Nat → List ByteArray → Bt → Rd (List Eqn)
  | 0, _, r => .ok ([], r)
  | n + 1, D, r => andR (equR D r) fun x r => andR (equsR n (x.1 :: D) r) fun l r => .ok (x :: l, r)
def gOk (D : List ByteArray) (last g : ByteArray) : Bool := inN D g && decide (ltN last g)
def globR (D : List ByteArray) (last : ByteArray) (r : Bt) : Rd ByteArray := at_ r 31 (gOk D last) (textR r)
def globsR (D : List ByteArray) : Nat → ByteArray → Bt → Rd (List ByteArray)
  | 0, _, r => .ok ([], r)
  | n + 1, last, r => andR (globR D last r) fun x r => andR (globsR D n x r) fun l r => .ok (x :: l, r)
def headL : Bt := [83, 80, 65, 78, 1]
def headR : Bt → Bt → Rd PUnit
  | [], r => .ok (⟨⟩, r)
  | _ :: _, [] => .error (0, 15)
  | c :: l, b :: r => if b = c then headR l r else .error (r.length + 1, 15)
/-- A count, and so many things. -/
def over : Option Nat → Nat → Bool
  | none, _ => false
  | some m, n => decide (m < n)
def cntR {α : Type} (most : Option Nat) (f : Nat → Bt → Rd α) (r : Bt) : Rd α := andR (numR 2 r) fun n r1 => if over most n then .error (r.length, 4) else f n r1
def namesI (D : List ByteArray) (l : List Itm) : List ByteArray := l.foldl addN D
def namesE (D : List ByteArray) (l : List Eqn) : List ByteArray := l.foldl (fun D p => p.1 :: D) D
def bodyR (r : Bt) : Rd Unt := andR (headR headL r) fun _ r =>
  andR (cntR (some 8192) (fun n => itemsR 0 n []) r) fun t r =>
  andR (cntR (some (8192 - t.length)) (fun n => itemsR 1 n (namesI [] t)) r) fun d r =>
  andR (cntR (some 8192) (fun n => equsR n (namesI (namesI [] t) d)) r) fun e r =>
  andR (cntR none (fun n => globsR (namesE (namesI (namesI [] t) d) e) n nam0) r) fun g r => .ok (⟨t, d, e, g⟩, r)
def unitR (r : Bt) : Rd Unt := andR (bodyR r) fun u r => if r = [] then .ok (u, []) else .error (r.length, 14)
/-! Right units. -/
def itemsOk (sec : Nat) : List ByteArray → List Itm → Bool
  | _, [] => true
  | D, x :: l => itmOk sec D x && itemsOk sec (addN D x) l
def equsOk : List ByteArray → List Eqn → Bool
  | _, [] => true
  | D, x :: l => equOk D x && equsOk (x.1 :: D) l
def globsOk (D : List ByteArray) : ByteArray → List ByteArray → Bool
  | _, [] => true
  | last, x :: l => gOk D last x && globsOk D x l
def Unt.names (u : Unt) : List ByteArray := namesE (namesI (namesI [] u.text) u.data) u.equs
def untOk (u : Unt) : Bool := itemsOk 0 [] u.text && itemsOk 1 (namesI [] u.text) u.data && equsOk (namesI (namesI [] u.text) u.data) u.equs && globsOk u.names nam0 u.globs
def untMany (u : Unt) : Bool := decide (8192 < u.text.length + u.data.length) || decide (8192 < u.equs.length)
def untR (u : Unt) : Nat := if untMany u then 4 else if untOk u then 0 else 31
def wEqu (p : Eqn) : Bt := wText p.1 ++ wLin p.2
def wCnt {α : Type} (w : α → Bt) (l : List α) : Bt := bytB l.length 2 ++ l.flatMap w
def wUnt (u : Unt) : Bt := headL ++ (wCnt wItm u.text ++ (wCnt wItm u.data ++ (wCnt wEqu u.equs ++ wCnt wText u.globs)))
structure UntSm (u : Unt) : Prop where
  text : ∀ x, x ∈ u.text → LinSm x.e
  data : ∀ x, x ∈ u.data → LinSm x.e
  equs : ∀ x, x ∈ u.equs → LinSm x.2
theorem itemsR_app (sec : Nat) : ∀ (l : List Itm) (D : List ByteArray) (t : Bt), itemsOk sec D l = true → (∀ x, x ∈ l → LinSm x.e) → itemsR sec l.length D (l.flatMap wItm ++ t) = .ok (l, t)
  | [], D, t, _, _ => rfl
  | x :: l, D, t, h, s => by
    unfold itemsOk at h
    rw [Bool.and_eq_true] at h
    obtain ⟨h1, h2⟩ := h
    have h3 : itmR x sec = true := by
      unfold itmOk at h1
      rw [Bool.and_eq_true] at h1
      exact h1.1
    rw [List.length_cons, List.flatMap_cons, List.append_assoc, itemsR]
    have h4 : itemR sec D (wItm x ++ (l.flatMap wItm ++ t)) = .ok (x, l.flatMap wItm ++ t) := at_app (itmB_app h3 (s x (by simp)) _) h1
    rw [h4, andR_okk, itemsR_app sec l _ t h2 fun y hy => s y (List.mem_cons_of_mem _ hy), andR_okk]
theorem equOk_l {D : List ByteArray} {x : Eqn} (h : equOk D x = true) : legalL x.1.data.toList = true ∧ rtR none x.2.terms = true := by
  unfold equOk at h
  simp only [Bool.and_eq_true] at h
  exact ⟨h.1.2, h.2⟩
theorem equsR_app : ∀ (l : List Eqn) (D : List ByteArray) (t : Bt), equsOk D l = true → (∀ x, x ∈ l → LinSm x.2) → equsR l.length D (l.flatMap wEqu ++ t) = .ok (l, t)
  | [], D, t, _, _ => rfl
  | x :: l, D, t, h, s => by
    unfold equsOk at h
    rw [Bool.and_eq_true] at h
    obtain ⟨h1, h2⟩ := h
    obtain ⟨h3, h4⟩ := equOk_l h1
    rw [List.length_cons, List.flatMap_cons, List.append_assoc, equsR]
    have h5 : equR D (wEqu x ++ (l.flatMap wEqu ++ t)) = .ok (x, l.flatMap wEqu ++ t) := by
      refine at_app ?_ h1
      unfold equB wEqu
      rw [List.append_assoc, textR_app (legal_fit h3), andR_okk, linR_app (rtR_fit h4 (s x (by simp))), andR_okk]
    rw [h5, andR_okk, equsR_app l _ t h2 fun y hy => s y (List.mem_cons_of_mem _ hy), andR_okk]
theorem globsR_app (D : List ByteArray) (hD : ∀ s, s ∈ D → s.size < 65536) : ∀ (l : List ByteArray) (o : ByteArray) (t : Bt), globsOk D o l = true → globsR D l.length o (l.flatMap wText ++ t) = .ok (l, t)
  | [], o, t, _ => rfl
  | x :: l, o, t, h => by
    unfold globsOk at h
    rw [Bool.and_eq_true] at h
    obtain ⟨h1, h2⟩ := h
    have h3 : x.size < 65536 := by
      unfold gOk inN at h1
      simp only [Bool.and_eq_true, List.any_eq_true, decide_eq_true_eq] at h1
      obtain ⟨⟨y, hy, rfl⟩, _⟩ := h1
      exact hD y hy
    rw [List.length_cons, List.flatMap_cons, List.append_assoc, globsR]
    have h5 : globR D o (wText x ++ (l.flatMap wText ++ t)) = .ok (x, l.flatMap wText ++ t) := at_app (textR_app h3 _) h1
    rw [h5, andR_okk, globsR_app D hD l _ t h2, andR_okk]
theorem headR_app : ∀ (l t : Bt), headR l (l ++ t) = .ok (⟨⟩, t)
  | [], t => rfl
  | c :: l, t => by
    rw [List.cons_append, headR, if_pos rfl, headR_app l t]
theorem cntR_app {α : Type} {most : Option Nat} {f : Nat → Bt → Rd (List α)} {w : α → Bt} {l : List α} {t : Bt} (hl : l.length < 65536) (hm : ∀ m, most = some m → l.length ≤ m) (h : f l.length (l.flatMap w ++ t) = .ok (l, t)) :
    cntR most f (wCnt w l ++ t) = .ok (l, t) := by
  unfold cntR wCnt
  rw [List.append_assoc, numR_app, andR_okk, Nat.mod_eq_of_lt (by omega)]
  rw [if_neg]
  · exact h
  · cases most with
    | none => simp [over]
    | some m =>
      have := hm m rfl
      simp [over]
      omega
theorem addN_length (D : List ByteArray) (x : Itm) : (addN D x).length ≤ D.length + 1 := by
  unfold addN
  split
  · simp
  · omega
theorem namesI_length : ∀ (l : List Itm) (D : List ByteArray), (namesI D l).length ≤ D.length + l.length
  | [], D => by simp [namesI]
  | x :: l, D => by
    have h1 := namesI_length l (addN D x)
    have h2 := addN_length D x
    have h3 : namesI D (x :: l) = namesI (addN D x) l := rfl
    rw [h3, List.length_cons]
    omega
theorem namesE_length : ∀ (l : List Eqn) (D : List ByteArray), (namesE D l).length = D.length + l.length
  | [], D => by simp [namesE]
  | x :: l, D => by
    have h1 := namesE_length l (x.1 :: D)
    have h3 : namesE D (x :: l) = namesE (x.1 :: D) l := rfl
    rw [h3, h1, List.length_cons, List.length_cons]
    omega
theorem namesI_sm (sec : Nat) : ∀ (l : List Itm) (D : List ByteArray), itemsOk sec D l = true → (∀ s, s ∈ D → legalL s.data.toList = true) → ∀ s, s ∈ namesI D l → legalL s.data.toList = true
  | [], D, _, h, s, hs => h s hs
  | x :: l, D, h, hD, s, hs => by
    unfold itemsOk at h
    rw [Bool.and_eq_true] at h
    refine namesI_sm sec l (addN D x) h.2 ?_ s hs
    intro t ht
    unfold addN at ht
    split at ht
    · rename_i hk
      rcases List.mem_cons.1 ht with rfl | ht
      · have h1 := h.1
        unfold itmOk itmR at h1
        rw [if_pos hk] at h1
        simp only [Bool.and_eq_true] at h1
        exact h1.1.1.1.1
      · exact hD t ht
    · exact hD t ht
theorem namesE_sm : ∀ (l : List Eqn) (D : List ByteArray), equsOk D l = true → (∀ s, s ∈ D → legalL s.data.toList = true) → ∀ s, s ∈ namesE D l → legalL s.data.toList = true
  | [], D, _, h, s, hs => h s hs
  | x :: l, D, h, hD, s, hs => by
    unfold equsOk at h
    rw [Bool.and_eq_true] at h
    refine namesE_sm l (x.1 :: D) h.2 ?_ s hs
    intro t ht
    rcases List.mem_cons.1 ht with rfl | ht
    · exact (equOk_l h.1).1
    · exact hD t ht
theorem sub_length {α : Type} [DecidableEq α] : ∀ (l m : List α), l.Nodup → (∀ x, x ∈ l → x ∈ m) → l.length ≤ m.length
  | [], m, _, _ => by simp
  | x :: l, m, h, hs => by
    have h1 := List.nodup_cons.1 h
    have h2 := sub_length l (m.erase x) h1.2 (fun y hy => (List.mem_erase_of_ne (by rintro rfl; exact h1.1 hy)).2 (hs y (List.mem_cons_of_mem _ hy)))
    have h3 : x ∈ m := hs x (by simp)
    rw [List.length_erase_of_mem h3] at h2
    have : 0 < m.length := List.length_pos_of_mem h3
    rw [List.length_cons]
    omega
theorem globsOk_all (D : List ByteArray) : ∀ (l : List ByteArray) (o : ByteArray), globsOk D o l = true → (∀ x, x ∈ l → x ∈ D ∧ ltN o x) ∧ l.Pairwise ltN
  | [], o, _ => ⟨by simp, List.Pairwise.nil⟩
  | x :: l, o, h => by
    unfold globsOk gOk inN at h
    simp only [Bool.and_eq_true, List.any_eq_true, decide_eq_true_eq] at h
    obtain ⟨⟨⟨y, hy, rfl⟩, h2⟩, h3⟩ := h
    obtain ⟨a, b⟩ := globsOk_all D l y h3
    refine ⟨?_, List.pairwise_cons.2 ⟨fun z hz => (a z hz).2, b⟩⟩
    intro z hz
    rcases List.mem_cons.1 hz with rfl | hz
    · exact ⟨hy, h2⟩
    · exact ⟨(a z hz).1, ltN_trans h2 (a z hz).2⟩
theorem globs_length {D l : List ByteArray} {o : ByteArray} (h : globsOk D o l = true) : l.length ≤ D.length := by
  obtain ⟨a, b⟩ := globsOk_all D l o h
  refine sub_length l D ?_ fun x hx => (a x hx).1
  exact List.Pairwise.imp (fun {x y} (hxy : ltN x y) (e : x = y) => ltN_ne hxy (by rw [e])) b
theorem untMany_f {u : Unt} (h : untMany u = false) : u.text.length + u.data.length ≤ 8192 ∧ u.equs.length ≤ 8192 := by
  unfold untMany at h
  simp only [Bool.or_eq_false_iff, decide_eq_false_iff_not] at h
  omega
theorem untR_z {u : Unt} (h : untR u = 0) : untMany u = false ∧ untOk u = true := by
  unfold untR at h
  split at h
  · cases h
  · rename_i h1
    split at h
    · rename_i h2
      exact ⟨by simpa using h1, h2⟩
    · cases h
theorem bodyR_app {u : Unt} (h : untR u = 0) (s : UntSm u) (t : Bt) : bodyR (wUnt u ++ t) = .ok (u, t) := by
  obtain ⟨h1, h2⟩ := untR_z h
  obtain ⟨h3, h4⟩ := untMany_f h1
  unfold untOk at h2
  simp only [Bool.and_eq_true] at h2
  obtain ⟨⟨⟨g1, g2⟩, g3⟩, g4⟩ := h2
  have n1 := namesI_sm 0 u.text [] g1 (by simp)
  have n2 := namesI_sm 1 u.data _ g2 n1
  have n3 := namesE_sm u.equs _ g3 n2
  have l1 := namesI_length u.text []
  have l2 := namesI_length u.data (namesI [] u.text)
  have l3 := namesE_length u.equs (namesI (namesI [] u.text) u.data)
  have l4 := globs_length g4
  unfold Unt.names at l4 g4
  simp only [List.length_nil] at l1
  unfold bodyR wUnt
  simp only [List.append_assoc]
  rw [headR_app, andR_okk, cntR_app (by omega) (by rintro m ⟨⟩; omega) (itemsR_app 0 u.text [] _ g1 s.text), andR_okk,
    cntR_app (by omega) (by rintro m ⟨⟩; omega) (itemsR_app 1 u.data _ _ g2 s.data), andR_okk,
    cntR_app (by omega) (by rintro m ⟨⟩; omega) (equsR_app u.equs _ _ g3 s.equs), andR_okk,
    cntR_app (by omega) (by rintro m ⟨⟩) (globsR_app _ (fun y hy => legal_fit (n3 y hy)) u.globs _ _ g4), andR_okk]
theorem unitR_app {u : Unt} (h : untR u = 0) (s : UntSm u) (t : Bt) : unitR (wUnt u ++ t) = if t = [] then .ok (u, []) else .error (t.length, 14) := by
  unfold unitR
  rw [bodyR_app h s, andR_okk]
end Go.Sx.Ob

set_option linter.unusedVariables false
set_option linter.unusedSimpArgs false
set_option maxRecDepth 100000
namespace Go.Sx
open Go.Proofs
theorem trm80 : Tryz.prog.underlying 104 = some (.struct (flds Tryz.prog 104)) := by kernel_rfl
theorem cmpTrm (x y : Operand) (a : ByteArray) (b : Int) (a' : ByteArray) (b' : Int) (h : Hp) (K : Value → Hp → Prop) (hk : K (.bool !(a == a' && b == b')) h) :
    semW Tryz.prog (Sx.cmpS (BinOp.neq) 104 x y (.agg #[.string a, .int .u32 b]) (.agg #[.string a', .int .u32 b'])) h K := by
  refine cmpS_neq trm80 (by kernel_rfl) (by kernel_rfl) (by kernel_rfl) K ?_
  have he : (flds Tryz.prog 104).all (eqF #[.string a, .int .u32 b] #[.string a', .int .u32 b']) = (a == a' && (b == b' && true)) := by
    rw [← Array.all_toList]
    kernel_rfl
  rw [he, Bool.and_true]
  exact hk
theorem trm_ne (t u : ByteArray × Nat) : (!(t.1 == u.1 && (t.2 : Int) == (u.2 : Int))) = decide (t ≠ u) := by
  obtain ⟨a, b⟩ := t
  obtain ⟨a', b'⟩ := u
  by_cases h1 : a = a'
  · subst h1
    rw [bytes_beq]
    by_cases h2 : b = b'
    · subst h2
      simp
    · have h3 : ¬ ((b : Int) = (b' : Int)) := by omega
      have h4 : ((b : Int) == (b' : Int)) = false := by simpa using h3
      simp [h2, h4]
  · have h3 : (a == a') = false := by
      obtain ⟨d⟩ := a
      obtain ⟨d'⟩ := a'
      show (d == d') = false
      have h4 : ¬ d = d' := fun e => h1 (by rw [e])
      simpa using h4
    simp [h1, h3]
theorem ne_of_drop {α : Type} {l m : List α} {i : Nat} (hi : i < l.length) (hj : i < m.length) (h : l[i] ≠ m[i]) : l ≠ m := by
  rintro rfl
  exact h rfl
theorem drop_eq_step {α : Type} {l m : List α} {i : Nat} (hi : i < l.length) (hj : i < m.length) (h : l[i] = m[i]) : (l.drop i = m.drop i) ↔ (l.drop (i + 1) = m.drop (i + 1)) := by
  rw [List.drop_eq_getElem_cons hi, List.drop_eq_getElem_cons hj, h]
  exact ⟨fun e => (List.cons.inj e).2, fun e => by rw [e]⟩
instance : DecidableEq Tms := inferInstance
theorem equal90_hc {h : Hp} {p q : Option Addr} {l m c d : Nat} {us vs : Tms} (v : VwT h p l us) (w : VwT h q m vs) (hl : us.length ≤ 2 ^ 60) : HCp Tryz.prog 100 [.slice p l c, .slice q m d] h (.bool (decide (us = vs))) := by
  refine hcp_of mixed Tryz.func100 (by kernel_rfl) (t_slices_Equal___api_Term_api_Term__eq p l c q m d) ?_
  unfold t_slices_Equal___api_Term_api_Term_
  have h1 := v.len
  have h2 := w.len
  refine cond_mk (fun g1 => ?_) (fun g1 => ?_)
  · have g1 : ¬ (l : Int) = (m : Int) := by simpa using g1
    exact ⟨by rw [decide_eq_false (fun e => by rw [e] at h1; omega)], rfl⟩
  · have g1 : (l : Int) = (m : Int) := by simpa using g1
    refine loop_of (cs := [(false, [.bool]), (false, [.int .i64])]) (fun y n h' => ∃ (i : Nat), y.2.1 = (i : Int) ∧ i ≤ us.length ∧ n = us.length - i ∧ h = h' ∧ (us = vs ↔ us.drop i = vs.drop i)) (false, (0 : Int), ()) us.length rfl
      ⟨0, rfl, by omega, by omega, rfl, Iff.rfl⟩ ?_
    rintro ⟨b8, n8, ⟨⟩⟩ n h2 ⟨i, hi, hile, rfl, rfl, hq⟩
    simp only at hi
    subst hi
    dsimp only [flat, unc, unc1, List.nil_append, List.cons_append]
    refine cond_mk (fun g2 => ?_) (fun g2 => ?_)
    · have g2 := of_decide_eq_true g2
      have hi1 : i < us.length := by omega
      have hi2 : i < vs.length := by omega
      obtain ⟨a, rfl, hc⟩ := v.cells i hi1
      obtain ⟨a', rfl, hc'⟩ := w.cells i hi2
      have hst := drop_eq_step hi1 hi2
      have hno := ne_of_drop hi1 hi2
      generalize us[i] = t at hc hst hno
      generalize vs[i] = u at hc' hst hno
      refine need_of ⟨by omega, by omega⟩ (osome_mk rfl ?_)
      rw [show Int.toNat (i : Int) = i by omega]
      refine loads_of (t.1, (t.2 : Int), ()) hc ?_
      dsimp only [flat, unc, unc1, List.nil_append, List.cons_append]
      refine need_of ⟨by omega, by omega⟩ (osome_mk rfl ?_)
      refine loads_of (u.1, (u.2 : Int), ()) hc' ?_
      dsimp only [flat, unc, unc1, List.nil_append, List.cons_append]
      refine sem_bool (b := decide (t ≠ u)) (fun K' hk => cmpTrm _ _ _ _ _ _ _ _ (by rw [trm_ne]; exact hk)) ?_
      refine cond_mk (fun g3 => ?_) (fun g3 => ?_)
      · exact ⟨by rw [decide_eq_false (hno (of_decide_eq_true g3))], rfl⟩
      · have g3 : t = u := by simpa using g3
        have hw : IntKind.wrap .i64 ((i : Int) + 1) = ((i + 1 : Nat) : Int) := by rw [wrap_i64 (by omega) (by omega)]; omega
        exact again_mk (cs := [(false, [.bool]), (false, [.int .i64])]) (b8, ((i + 1 : Nat) : Int), ()) (us.length - (i + 1)) rfl (by omega) (congrArg (fun z => [Value.bool b8, Value.int .i64 z]) hw) ⟨i + 1, rfl, by omega, rfl, rfl, hq.trans (hst g3)⟩
    · have g2 := of_decide_eq_false g2
      refine ⟨?_, rfl⟩
      rw [decide_eq_true (hq.2 (by rw [List.drop_eq_nil_of_le (by omega), List.drop_eq_nil_of_le (by omega)]))]
/-- Are two Lins one? -/
def linB (x y : Lin) : Bool := decide (x.num = y.num) && decide (x.terms = y.terms)
theorem linB_refl (x : Lin) : linB x x = true := by unfold linB; simp
theorem same64_hc {h : Hp} {p q : Option Addr} {l m c d : Nat} {x y : Lin} (v : VwT h p l x.terms) (w : VwT h q m y.terms) (hl : x.terms.length ≤ 2 ^ 60) :
    HC Tryz.prog 88 #[linV p l c x, linV q m d y] h fun r h' => r = .bool (linB x y) ∧ Ext h h' := by
  refine hcr_of (args := [.agg #[.slice p l c, .int .u32 x.num], .agg #[.slice q m d, .int .u32 y.num]]) mixed Tryz.func88 (by kernel_rfl) (t_expr_Same_eq p l c x.num q m d y.num) ?_
  unfold t_expr_Same
  refine newB ?_
  intro h1 b1 e1 z1
  refine newB ?_
  intro h2 b2 e2 z2
  have b1 := b1.keep e2 (by simp)
  have e02 := e1.trans e2
  rw [add_box, add_box]
  refine loads_box b1 ((x.num : Int), ()) rfl ?_
  dsimp only [flat, unc, unc1, List.nil_append, List.cons_append]
  refine loads_box b2 ((y.num : Int), ()) rfl ?_
  dsimp only [flat, unc, unc1, List.nil_append, List.cons_append]
  refine cond_mk (fun g1 => ?_) (fun g1 => ?_)
  · have g1 : x.num = y.num := by have : (x.num : Int) = y.num := by simpa using g1
                                  omega
    refine loads_box b1 ((p, l, c), ()) rfl ?_
    dsimp only [flat, unc, unc1, List.nil_append, List.cons_append]
    refine loads_box b2 ((q, m, d), ()) rfl ?_
    dsimp only [flat, unc, unc1, List.nil_append, List.cons_append]
    refine call_bool (equal90_hc (v.keep e02 (by simp)) (w.keep e02 (by simp)) hl) ?_
    refine ⟨?_, e02⟩
    unfold linB
    rw [decide_eq_true g1]
    rfl
  · have g1 : ¬ x.num = y.num := by have : ¬ (x.num : Int) = y.num := by simpa using g1
                                    omega
    refine ⟨?_, e02⟩
    unfold linB
    rw [decide_eq_false g1]
    rfl
theorem same48_hc {h : Hp} {p q : Option Addr} {l m c d : Nat} {x y : Lin} (v : VwT h p l x.terms) (w : VwT h q m y.terms) (hl : x.terms.length ≤ 2 ^ 60) :
    HC Tryz.prog 67 #[linV p l c x, linV q m d y] h fun r h' => r = .bool (linB x y) ∧ Ext h h' := by
  refine hcr_of (args := [.agg #[.slice p l c, .int .u32 x.num], .agg #[.slice q m d, .int .u32 y.num]]) mixed Tryz.func67 (by kernel_rfl) (t_spandrelref4_Same_eq p l c x.num q m d y.num) ?_
  unfold t_spandrelref4_Same
  refine newB ?_
  intro h1 b1 e1 z1
  refine newB ?_
  intro h2 b2 e2 z2
  have b1 := b1.keep e2 (by simp)
  have e02 := e1.trans e2
  have v := v.keep e02 (by simp)
  have w := w.keep e02 (by simp)
  have hv := v.len
  have hw := w.len
  rw [add_box, add_box]
  refine loads_box b1 ((x.num : Int), ()) rfl ?_
  dsimp only [flat, unc, unc1, List.nil_append, List.cons_append]
  refine loads_box b2 ((y.num : Int), ()) rfl ?_
  dsimp only [flat, unc, unc1, List.nil_append, List.cons_append]
  refine cond_mk (fun g1 => ?_) (fun g1 => ?_)
  · have g1 : ¬ x.num = y.num := by have : ¬ (x.num : Int) = y.num := by simpa using g1
                                    omega
    refine ⟨?_, e02⟩
    unfold linB
    rw [decide_eq_false g1]
    rfl
  · have g1 : x.num = y.num := by have : (x.num : Int) = y.num := by simpa using g1
                                  omega
    have hB : linB x y = decide (x.terms = y.terms) := by
      unfold linB
      rw [decide_eq_true g1]
      rfl
    rw [hB]
    refine loads_box b1 ((p, l, c), ()) rfl ?_
    dsimp only [flat, unc, unc1, List.nil_append, List.cons_append]
    refine loads_box b2 ((q, m, d), ()) rfl ?_
    dsimp only [flat, unc, unc1, List.nil_append, List.cons_append]
    refine cond_mk (fun g2 => ?_) (fun g2 => ?_)
    · have g2 : ¬ (l : Int) = (m : Int) := by simpa using g2
      exact ⟨by rw [decide_eq_false (fun e => by rw [e] at hv; omega)], e02⟩
    · have g2 : (l : Int) = (m : Int) := by simpa using g2
      refine loop_of (cs := [(false, [.bool]), (false, [.int .i64])]) (fun z n h' => ∃ (i : Nat), z.2.1 = (i : Int) ∧ i ≤ x.terms.length ∧ n = x.terms.length - i ∧ h2 = h' ∧ (x.terms = y.terms ↔ x.terms.drop i = y.terms.drop i)) (false, (0 : Int), ()) x.terms.length rfl
        ⟨0, rfl, by omega, by omega, rfl, Iff.rfl⟩ ?_
      rintro ⟨b8, n8, ⟨⟩⟩ n h3 ⟨i, hi, hile, rfl, rfl, hq⟩
      simp only at hi
      subst hi
      dsimp only [flat, unc, unc1, List.nil_append, List.cons_append]
      refine loads_box b1 ((p, l, c), ()) rfl ?_
      dsimp only [flat, unc, unc1, List.nil_append, List.cons_append]
      refine cond_mk (fun g2 => ?_) (fun g2 => ?_)
      · have g2 := of_decide_eq_true g2
        have hi1 : i < x.terms.length := by omega
        have hi2 : i < y.terms.length := by omega
        obtain ⟨a, rfl, hc⟩ := v.cells i hi1
        obtain ⟨a', rfl, hc'⟩ := w.cells i hi2
        have hst := drop_eq_step hi1 hi2
        have hno := ne_of_drop hi1 hi2
        generalize x.terms[i] = t at hc hst hno
        generalize y.terms[i] = u at hc' hst hno
        refine loads_box b1 ((some a, l, c), ()) rfl ?_
        dsimp only [flat, unc, unc1, List.nil_append, List.cons_append]
        refine need_of ⟨by omega, by omega⟩ (osome_mk rfl ?_)
        rw [show Int.toNat (i : Int) = i by omega]
        refine loads_of (t.1, (t.2 : Int), ()) hc ?_
        dsimp only [flat, unc, unc1, List.nil_append, List.cons_append]
        refine loads_box b2 ((some a', m, d), ()) rfl ?_
        dsimp only [flat, unc, unc1, List.nil_append, List.cons_append]
        refine need_of ⟨by omega, by omega⟩ (osome_mk rfl ?_)
        refine loads_of (u.1, (u.2 : Int), ()) hc' ?_
        dsimp only [flat, unc, unc1, List.nil_append, List.cons_append]
        refine sem_bool (b := decide (t ≠ u)) (fun K' hk => cmpTrm _ _ _ _ _ _ _ _ (by rw [trm_ne]; exact hk)) ?_
        refine ⟨⟨b2.cells _ rfl, b1.cells _ rfl, trivial⟩, ?_⟩
        refine cond_mk (fun g3 => ?_) (fun g3 => ?_)
        · exact ⟨by rw [decide_eq_false (hno (of_decide_eq_true g3))], e02⟩
        · have g3 : t = u := by simpa using g3
          have hw : IntKind.wrap .i64 ((i : Int) + 1) = ((i + 1 : Nat) : Int) := by rw [wrap_i64 (by omega) (by omega)]; omega
          exact again_mk (cs := [(false, [.bool]), (false, [.int .i64])]) (b8, ((i + 1 : Nat) : Int), ()) (x.terms.length - (i + 1)) rfl (by omega) (congrArg (fun z => [Value.bool b8, Value.int .i64 z]) hw) ⟨i + 1, rfl, by omega, rfl, rfl, hq.trans (hst g3)⟩
      · have g2 := of_decide_eq_false g2
        refine ⟨?_, e02⟩
        rw [decide_eq_true (hq.2 (by rw [List.drop_eq_nil_of_le (by omega), List.drop_eq_nil_of_le (by omega)]))]
/-- A slice literal without elements. -/
theorem lit0_of {P : Program} {L : Lp} {K : Value → Hp → Prop} {h : Hp} {k : Option Addr → Nat → Nat → T} {t e : TypeId} {z : Value} {sz by' : Nat} (ht : P.underlying t = some (.slice e)) (hinf : (P.info? e).map (fun i => (i.zero, i.size, i.bytes)) = some (some z, sz, by'))
    (hk : ∀ h' , SL h' h.size e sz (some ⟨h.size, 0, none⟩) 0 0 [] → Ext h h' → k (some ⟨h.size, 0, none⟩) 0 0 L K h') : T.sem P (Instr.buildSlice t 0 #[]) false [(false, [.slice 0])] k L K h := by
  obtain ⟨i, hi, hz, rfl, rfl⟩ := inf_of hinf
  refine sem_slice ?_
  unfold Instr.buildSlice
  rw [semW_bind', semW_underlying ht]
  simp only
  rw [semW_bind', semW_sizeOf hi]
  simp only [Nat.zero_mul]
  rw [if_neg (by omega)]
  have h0 : ∀ f : Nat → Value, Array.map f (Array.range 0) = #[] := fun f => by simp
  simp only [h0]
  refine ⟨_, _, _, rfl, hk _ ?_ (Ext.push h _)⟩
  exact ⟨rfl, by simp, h.size, [], [], rfl, Nat.le_refl _, ⟨Nat.le_refl _, by omega⟩, by simpa using Box.new h e [], by simp⟩
theorem cellsAt_flat {h : Hp} {a : Addr} : ∀ (us : Tms) (k : Nat), (∀ i, (hi : i < us.length) → cellsAt h (a.add ((k + i) * 2)) 0 (encT us[i])) → cellsAt h a (k * 2) (us.map encT).flatten
  | [], _, _ => trivial
  | t :: us, k, hc => by
    have h0 := hc 0 (by simp)
    obtain ⟨h1, h2, _⟩ := h0
    rw [add_add] at h1 h2
    have ih := cellsAt_flat us (k + 1) (fun i hi => by
      have := hc (i + 1) (by simpa using hi)
      rw [show k + (i + 1) = k + 1 + i by omega] at this
      exact this)
    rw [show (k + 1) * 2 = k * 2 + 1 + 1 by omega] at ih
    exact ⟨h1, by simpa using h2, ih⟩
theorem VwT.flat {h : Hp} {a : Addr} {l : Nat} {us : Tms} (v : VwT h (some a) l us) : cellsAt h a 0 (us.map encT).flatten := by
  have := cellsAt_flat (h := h) (a := a) us 0 (fun i hi => by
    obtain ⟨a', e, hc⟩ := v.cells i hi
    cases e
    rw [Nat.zero_add]
    exact hc)
  simpa using this
theorem encT_plain (us : Tms) : (us.map encT).flatten.all plainV = true := by
  rw [List.all_eq_true]
  intro v hv
  obtain ⟨x, hx, hv⟩ := List.mem_flatten.1 hv
  obtain ⟨t, _, rfl⟩ := List.mem_map.1 hx
  simp only [encT, List.mem_cons, List.not_mem_nil, or_false] at hv
  rcases hv with rfl | rfl <;> rfl
end Go.Sx

set_option linter.unusedVariables false
set_option linter.unusedSimpArgs false
set_option maxRecDepth 100000
namespace Go.Sx.Ob
open Go.Proofs
theorem _root_.Go.Sx.Ch.st {h a b : Hp} {g : Nat} (e : Ext h a) (k : Ch [g] a b) (hg : h.size ≤ g) : Ext h b := Ch.trans e k (fun i hi hl => by simp at hi; omega)
/-- The table's rows. -/
def rowsV (nm : Nat → ByteArray) (by_ : Nat → Int) : List Value := (List.range 43).flatMap fun k => [.string (nm k), .int .u8 (by_ k), .int .i64 (shpL.getD k 0 : Nat)]
def Tab (h : Hp) : Prop := ∃ nm by_ e f, h[0]? = some (.cells (rowsV nm by_).toArray e f)
theorem Tab.keep {ws : List Nat} {h h' : Hp} (t : Tab h) (k : Ch ws h h') (hw : 0 ∉ ws) : Tab h' := by
  obtain ⟨nm, by_, e, f, ht⟩ := t
  exact ⟨nm, by_, e, f, k.get ht hw⟩
theorem flat_get {α β : Type} (f : α → List β) (m : Nat) (hf : ∀ x, (f x).length = m) : ∀ (l : List α) (i j : Nat), j < m → (l.flatMap f)[i * m + j]? = (l[i]?).bind fun x => (f x)[j]?
  | [], i, j, hj => by simp
  | x :: l, 0, j, hj => by
    rw [List.flatMap_cons, List.getElem?_append_left (by rw [hf]; omega)]
    simp
  | x :: l, i + 1, j, hj => by
    rw [List.flatMap_cons, List.getElem?_append_right (by rw [hf, Nat.add_mul]; omega), hf, show (i + 1) * m + j - m = i * m + j by rw [Nat.add_mul]; omega, flat_get f m hf l i j hj]
    simp
theorem Tab.cells {h : Hp} (t : Tab h) {k : Nat} (hk : k < 43) : ∃ (s : ByteArray) (b : Int), cellsAt h ((⟨0, 0, none⟩ : Addr).add (k * 3)) 0 [.string s, .int .u8 b, .int .i64 (shpL.getD k 0 : Nat)] := by
  obtain ⟨nm, by_, e, f, ht⟩ := t
  refine ⟨nm k, by_ k, ?_⟩
  have hg : ∀ j, j < 3 → (rowsV nm by_)[k * 3 + j]? = ([.string (nm k), .int .u8 (by_ k), .int .i64 (shpL.getD k 0 : Nat)] : List Value)[j]? := by
    intro j hj
    unfold rowsV
    rw [flat_get _ 3 (by simp) _ _ _ hj]
    simp [hk]
  rw [add_box]
  refine ⟨?_, ?_, ?_, trivial⟩
  · rw [add_box, hcell_of ht]
    have := hg 0 (by omega)
    simpa using this
  · rw [add_box, hcell_of ht]
    have := hg 1 (by omega)
    simpa using this
  · rw [add_box, hcell_of ht]
    have := hg 2 (by omega)
    simpa using this
theorem at_hc {h : Hp} (t : Tab h) (op : Int) (h1 : -9223372036854775808 ≤ op) (h2 : op ≤ 9223372036854775807) :
    HC Tryz.prog 91 #[.int .i64 op] h fun w h' => ∃ (s : ByteArray) (b : Int), w = .tuple #[.agg #[.string s, .int .u8 b, .int .i64 (shp op : Nat)], .bool (decide (shp op ≠ 0))] ∧ Ext h h' := by
  refine hcr_of (args := [.int .i64 op]) mixed Tryz.func91 (by kernel_rfl) (t_isa_At_eq op) ?_
  unfold t_isa_At
  refine newB ?_
  intro g1 b1 e1 z1
  have hz : ∀ (hh : shp op = 0), (∃ (s : ByteArray) (b : Int), (Value.tuple #[.agg #[.string ⟨#[]⟩, .int .u8 0, .int .i64 0], .bool false]) = .tuple #[.agg #[.string s, .int .u8 b, .int .i64 (shp op : Nat)], .bool (decide (shp op ≠ 0))]) :=
    fun hh => ⟨⟨#[]⟩, 0, by rw [hh]; rfl⟩
  refine cond_mk (fun q => ?_) (fun q => ?_)
  · have q := of_decide_eq_true q
    refine stores_of b1 rfl (by simp) ?_
    intro g2 b2 k2 z2
    refine loads_box b2 ((⟨#[]⟩ : ByteArray), (0 : Int), (0 : Int), ()) rfl ?_
    obtain ⟨s, b, e⟩ := hz (by unfold shp; rw [if_pos q])
    exact ⟨s, b, e, Ch.trans e1 k2 (fun i hi hl => by simp at hi; omega)⟩
  refine cond_mk (fun r => ?_) (fun r => ?_)
  · have r := of_decide_eq_true r
    refine stores_of b1 rfl (by simp) ?_
    intro g2 b2 k2 z2
    refine loads_box b2 ((⟨#[]⟩ : ByteArray), (0 : Int), (0 : Int), ()) rfl ?_
    obtain ⟨s, b, e⟩ := hz (by
      by_cases g : shp op = 0
      · exact g
      · have := shp_le op g
        omega)
    exact ⟨s, b, e, Ch.trans e1 k2 (fun i hi hl => by simp at hi; omega)⟩
  · have q := of_decide_eq_false q
    have r := of_decide_eq_false r
    rw [wrap_i64 (by omega) (by omega)]
    refine need_of ⟨by omega, by omega⟩ ?_
    obtain ⟨s, b, hc⟩ := (t.keep e1 (by simp)).cells (k := (op - 1).toNat) (by omega)
    refine loads_of (s, b, ((shpL.getD (op - 1).toNat 0 : Nat) : Int), ()) hc ?_
    dsimp only [flat, unc, unc1, List.nil_append, List.cons_append]
    refine stores_of b1 rfl (by simp) ?_
    intro g2 b2 k2 z2
    refine loads_box b2 (s, b, ((shpL.getD (op - 1).toNat 0 : Nat) : Int), ()) rfl ?_
    refine ⟨s, b, ?_, Ch.trans e1 k2 (fun i hi hl => by simp at hi; omega)⟩
    have h3 : shp op = shpL.getD (op - 1).toNat 0 := by unfold shp; rw [if_neg (by omega)]
    have h4 : shp op ≠ 0 := by
      rw [h3]
      have : ∀ k : Fin 43, shpL.getD k.1 0 ≠ 0 := by decide
      exact this ⟨(op - 1).toNat, by omega⟩
    rw [decide_eq_true h4, h3]
theorem spans_hc {h : Hp} (t : Tab h) (op : Int) (h1 : -9223372036854775808 ≤ op) (h2 : op ≤ 9223372036854775807) :
    HC Tryz.prog 92 #[.int .i64 op] h fun w h' => w = .bool (spn op) ∧ Ext h h' := by
  refine hcr_of (args := [.int .i64 op]) mixed Tryz.func92 (by kernel_rfl) (t_isa_Spans_eq op) ?_
  unfold t_isa_Spans
  refine call_of (at_hc t op h1 h2) ?_
  rintro _ g1 ⟨s, b, rfl, e1⟩
  refine ⟨(s, b, ((shp op : Nat) : Int), decide (shp op ≠ 0), ()), rfl, ?_⟩
  dsimp only [flat, unc, unc1, List.nil_append, List.cons_append]
  refine newB ?_
  intro g2 b2 e2 z2
  refine stores_of b2 rfl (by simp) ?_
  intro g3 b3 k3 z3
  have e3 := (e1.trans e2).st k3 (by have := e1.size; omega)
  have b3 : Box g3 g1.size 155 [.string s, .int .u8 b, .int .i64 (shp op : Nat)] := b3
  rw [add_box]
  refine loads_box b3 (((shp op : Nat) : Int), ()) rfl ?_
  dsimp only [flat, unc, unc1, List.nil_append, List.cons_append]
  have hc := shp_cases op
  refine cond_mk (fun q => ?_) (fun q => ?_)
  · have q : ((shp op : Nat) : Int) = 12 := by simpa using q
    refine ⟨?_, e3⟩
    unfold spn
    rw [decide_eq_true (by omega)]
  · have q : ¬ ((shp op : Nat) : Int) = 12 := by simpa using q
    refine loads_box b3 (((shp op : Nat) : Int), ()) rfl ?_
    refine ⟨?_, e3⟩
    unfold spn
    by_cases r : shp op = 13
    · rw [r]; rfl
    · rw [decide_eq_false (by omega)]
      congr 1
      simp
      omega
theorem wants_hc {h : Hp} (t : Tab h) (op : Int) (h1 : -9223372036854775808 ≤ op) (h2 : op ≤ 9223372036854775807) :
    HC Tryz.prog 71 #[.int .i64 op] h fun w h' => w = .bool (wnt op) ∧ Ext h h' := by
  refine hcr_of (args := [.int .i64 op]) mixed Tryz.func71 (by kernel_rfl) (t_object_wants_eq op) ?_
  unfold t_object_wants
  refine call_of (at_hc t op h1 h2) ?_
  rintro _ g1 ⟨s, b, rfl, e1⟩
  refine ⟨(s, b, ((shp op : Nat) : Int), decide (shp op ≠ 0), ()), rfl, ?_⟩
  dsimp only [flat, unc, unc1, List.nil_append, List.cons_append]
  refine newB ?_
  intro g2 b2 e2 z2
  refine stores_of b2 rfl (by simp) ?_
  intro g3 b3 k3 z3
  have e3 := (e1.trans e2).st k3 (by have := e1.size; omega)
  have b3 : Box g3 g1.size 155 [.string s, .int .u8 b, .int .i64 (shp op : Nat)] := b3
  rw [add_box]
  refine loads_box b3 (((shp op : Nat) : Int), ()) rfl ?_
  dsimp only [flat, unc, unc1, List.nil_append, List.cons_append]
  have hc := shp_cases op
  refine cond_mk (fun q => ?_) (fun q => ?_)
  · have q : ((shp op : Nat) : Int) = 10 := by simpa using q
    refine ⟨?_, e3⟩
    unfold wnt
    rw [decide_eq_true (by omega)]
  have q : ¬ ((shp op : Nat) : Int) = 10 := by simpa using q
  refine loads_box b3 (((shp op : Nat) : Int), ()) rfl ?_
  dsimp only [flat, unc, unc1, List.nil_append, List.cons_append]
  refine cond_mk (fun r => ?_) (fun r => ?_)
  · have r : ((shp op : Nat) : Int) = 11 := by simpa using r
    refine ⟨?_, e3⟩
    unfold wnt
    rw [decide_eq_true (by omega)]
  have r : ¬ ((shp op : Nat) : Int) = 11 := by simpa using r
  refine call_of (spans_hc (t.keep e3 (by simp)) op h1 h2) ?_
  rintro _ g4 ⟨rfl, e4⟩
  refine ⟨(spn op, ()), rfl, ?_⟩
  refine ⟨?_, e3.trans e4⟩
  unfold wnt spn
  congr 1
  simp
  omega
end Go.Sx.Ob
