/- Contracts over heaps, and plain laws, for the functions that the laws of chapter 10 call, part 1: Sums of names, in plain words: lists of terms with rising names are one where each name's coefficient is one; sums and products keep that shape. expr.Add, expr.Times over heaps: what is returned is new memory that holds the sum, the product. Condition: as each statement says. -/
import Derived.Test.YtnjohginlglonaaDoorObjT
import Derived.Test.YtnjohginlglonaaDoorSxL
import Derived.Test.YtnjohginlglonaaDoorOShelf
import Derived.Test.YtnjohginlglonaaDoorSxG
import Derived.Test.YtnjohginlglonaaDoorSxU
import Derived.Test.YtnjohginlglonaaDoorSxE
set_option linter.unusedVariables false
set_option maxRecDepth 100000
namespace Go.Sx
open Go.Proofs

theorem mixed : Tryd.prog.follows .mixedOrders = true := by kernel_rfl
theorem nm106 : (Tryd.f74.name == "runtime.NumGoroutine") = false := by kernel_rfl
theorem nb106 : Tryd.f74.body.isNone = true := by kernel_rfl
theorem en106 : Extern.findNext Tryd.f74 = none := by kernel_rfl
theorem ef106 : Extern.find Tryd.f74 = some Extern.BytealgIndexByte.indexByte := by kernel_rfl
theorem indexByte0_hc (s : ByteArray) (c : Int) (h : Hp) : HCp Tryd.prog 67 [.string s, .int .u8 c] h (.int .i64 (Lib.indexByte s.data.toList c.toNat.toUInt8)) := by
  refine hcp_of mixed Tryd.func67 (by kernel_rfl) (t_internal_stringslite_IndexByte_eq s c) ?_
  refine semW_ext Tryd.func74 nm106 nb106 en106 ef106 ?_
  rw [semW_indexByte]
  exact ⟨(_, ()), rfl, rfl, rfl⟩
theorem indexByte_hc (s : ByteArray) (c : Int) (h : Hp) : HCp Tryd.prog 61 [.string s, .int .u8 c] h (.int .i64 (Lib.indexByte s.data.toList c.toNat.toUInt8)) := by
  refine hcp_of mixed Tryd.func61 (by kernel_rfl) (t_strings_IndexByte_eq s c) ?_
  exact call_int (indexByte0_hc s c h) ⟨rfl, rfl⟩

/-- How many bytes of a set a text begins with. -/
def rowN (s set : List UInt8) : Nat := (s.takeWhile fun c => set.contains c).length
theorem rowN_le (s set : List UInt8) : rowN s set ≤ s.length := by
  unfold rowN
  exact (List.takeWhile_prefix _).length_le
theorem takeWhile_step {p : UInt8 → Bool} : ∀ (l : List UInt8) (k : Nat), k ≤ (l.takeWhile p).length → k < l.length → (k < (l.takeWhile p).length ↔ p (l.getD k 0) = true)
  | [], k, _, h => by simp at h
  | c :: l, 0, _, _ => by
    simp only [List.takeWhile_cons, List.getD_cons_zero]
    cases hp : p c <;> simp
  | c :: l, k + 1, h, hl => by
    simp only [List.takeWhile_cons] at h ⊢
    cases hp : p c with
    | false => rw [hp] at h; simp at h
    | true =>
      rw [hp] at h
      simp at h hl
      have := takeWhile_step l k (by simpa using h) hl
      simpa using this
theorem rowN_step (s set : List UInt8) (k : Nat) (hk : k ≤ rowN s set) (hl : k < s.length) : (k < rowN s set ↔ set.contains (s.getD k 0) = true) := takeWhile_step s k hk hl
theorem sbyte_u8 (s : ByteArray) (n : Int) : (sbyte s n).toNat.toUInt8 = s.data.toList.getD n.toNat 0 := by
  unfold sbyte; simp
theorem row_hc (s set : ByteArray) (h : Hp) (hs : s.size ≤ 9223372036854775807) : HCp Tryd.prog 51 [.string s, .string set] h (.int .i64 (rowN s.data.toList set.data.toList)) := by
  refine hcp_of mixed Tryd.func51 (by kernel_rfl) (t_lex_row_eq s set) ?_
  have hsz : s.data.toList.length = s.size := by simp
  have hle := rowN_le s.data.toList set.data.toList
  refine loop_of (cs := [(false, [.int .i64])]) (fun x n h' => h' = h ∧ ∃ k : Nat, x.1 = (k : Int) ∧ k ≤ rowN s.data.toList set.data.toList ∧ n = s.size - k) ((0 : Int), ()) s.size rfl ⟨rfl, 0, rfl, by omega, by omega⟩ ?_
  rintro ⟨n, ⟨⟩⟩ m h' ⟨rfl, k, hk, hle', rfl⟩
  simp only at hk
  subst hk
  refine cond_mk (fun hb => ?_) (fun hb => ?_)
  · have hlt : (k : Int) < s.size := of_decide_eq_true hb
    have hst := rowN_step s.data.toList set.data.toList k hle' (by omega)
    refine need_of ⟨by omega, hlt⟩ ?_
    refine call_int (indexByte_hc _ _ _) ?_
    rw [sbyte_u8]
    have hc := Lib.contains_iff_indexByte set.data.toList (s.data.toList.getD k 0)
    refine cond_mk (fun hb2 => ?_) (fun hb2 => ?_)
    · have h2 := of_decide_eq_true hb2
      rw [wrap_i64 (by omega) (by omega)]
      have hin : set.data.toList.contains (s.data.toList.getD k 0) = true := by rw [hc]; exact decide_eq_true h2
      exact again_mk (cs := [(false, [.int .i64])]) ((k : Int) + 1, ()) (s.size - (k + 1)) rfl (by omega) rfl ⟨rfl, k + 1, (show ((k : Int) + 1) = ((k + 1 : Nat) : Int) from by omega), hst.2 hin, rfl⟩
    · have h2 := of_decide_eq_false hb2
      have hin : ¬ set.data.toList.contains (s.data.toList.getD k 0) = true := by rw [hc]; exact fun hh => h2 (of_decide_eq_true hh)
      have : k = rowN s.data.toList set.data.toList := by
        have : ¬ k < rowN s.data.toList set.data.toList := fun hh => hin (hst.1 hh)
        omega
      exact ⟨by rw [← this], rfl⟩
  · have hge : ¬ (k : Int) < s.size := of_decide_eq_false hb
    have : k = rowN s.data.toList set.data.toList := by omega
    exact ⟨by rw [← this], rfl⟩
/-! Bytes: letters and digits. -/
def isLet (c : UInt8) : Bool := (97 ≤ c.toNat && c.toNat ≤ 122) || (65 ≤ c.toNat && c.toNat ≤ 90) || c.toNat == 95
def isDig (c : UInt8) : Bool := 48 ≤ c.toNat && c.toNat ≤ 57
def lettersL : List UInt8 := [97, 98, 99, 100, 101, 102, 103, 104, 105, 106, 107, 108, 109, 110, 111, 112, 113, 114, 115, 116, 117, 118, 119, 120, 121, 122, 65, 66, 67, 68, 69, 70, 71, 72, 73, 74, 75, 76, 77, 78, 79, 80, 81, 82, 83, 84, 85, 86, 87, 88, 89, 90, 95]
def digitsL : List UInt8 := [48, 49, 50, 51, 52, 53, 54, 55, 56, 57]
theorem all_bytes (p q : UInt8 → Bool) (h : (List.range 256).all (fun n => p (UInt8.ofNat n) == q (UInt8.ofNat n)) = true) (c : UInt8) : p c = q c := by
  have := List.all_eq_true.1 h c.toNat (List.mem_range.2 (by have := c.toNat_lt; omega))
  simpa using this
theorem letters_is (c : UInt8) : lettersL.contains c = isLet c := all_bytes (fun c => lettersL.contains c) isLet (by decide +kernel) c
theorem digits_is (c : UInt8) : digitsL.contains c = isDig c := all_bytes (fun c => digitsL.contains c) isDig (by decide +kernel) c
theorem glued_is (c : UInt8) : (lettersL ++ digitsL).contains c = (isLet c || isDig c) := all_bytes (fun c => (lettersL ++ digitsL).contains c) (fun c => isLet c || isDig c) (by decide +kernel) c
def cN (c : UInt8) : Int := (c.toNat : Nat)
theorem isLet_iff (c : UInt8) : isLet c = true ↔ (97 ≤ cN c ∧ cN c ≤ 122) ∨ (65 ≤ cN c ∧ cN c ≤ 90) ∨ cN c = 95 := by
  unfold isLet cN
  simp only [Bool.or_eq_true, Bool.and_eq_true, decide_eq_true_eq, beq_iff_eq]
  omega
theorem isDig_iff (c : UInt8) : isDig c = true ↔ 48 ≤ cN c ∧ cN c ≤ 57 := by
  unfold isDig cN
  simp only [Bool.and_eq_true, decide_eq_true_eq]
  omega
/-- A register's number, whether it is a z, whether it is one. -/
def regL (s : List UInt8) : Int × Bool × Bool :=
  match s with
  | [a, b] => if cN a = 114 ∧ 48 ≤ cN b ∧ cN b ≤ 55 then (cN b - 48, false, true) else if cN a = 122 ∧ 48 ≤ cN b ∧ cN b ≤ 51 then (cN b - 48, true, true) else (0, false, false)
  | _ => (0, false, false)
theorem regL_len {s : List UInt8} (h : s.length ≠ 2) : regL s = (0, false, false) := by
  unfold regL
  split
  · simp at h
  · rfl
theorem sbyte_cN (s : ByteArray) (n : Int) : sbyte s n = cN (s.data.toList.getD n.toNat 0) := rfl
theorem two_bytes {s : ByteArray} (h1 : (s.size : Int) = 2) : ∃ a b, s.data.toList = [a, b] := by
  have hsz : s.data.toList.length = s.size := by simp
  match hl : s.data.toList with
  | [a, b] => exact ⟨a, b, rfl⟩
  | [] => rw [hl] at hsz; simp at hsz; omega
  | [a] => rw [hl] at hsz; simp at hsz; omega
  | a :: b :: c :: l => rw [hl] at hsz; simp at hsz; omega
theorem register_hc (s : ByteArray) (h : Hp) : HCp Tryd.prog 50 [.string s] h (.tuple #[.int .i64 (regL s.data.toList).1, .bool (regL s.data.toList).2.1, .bool (regL s.data.toList).2.2]) := by
  refine hcp_of mixed Tryd.func50 (by kernel_rfl) (t_lex_Register_eq s) ?_
  have hsz : s.data.toList.length = s.size := by simp
  unfold t_lex_Register
  refine cond_mk (fun h1 => ?_) (fun h1 => ?_)
  · have h1 : (s.size : Int) ≠ 2 := by simpa using h1
    rw [regL_len (by omega)]
    exact ⟨rfl, rfl⟩
  · have h1 : (s.size : Int) = 2 := by simpa using h1
    obtain ⟨a, b, hab⟩ := two_bytes h1
    have e0 : sbyte s 0 = cN a := by rw [sbyte_cN, hab]; rfl
    have e1 : sbyte s 1 = cN b := by rw [sbyte_cN, hab]; rfl
    have hb := b.toNat_lt
    have w1 : IntKind.wrap .i64 (IntKind.wrap .i64 (sbyte s 1) - 48) = cN b - 48 := by
      rw [e1, wrap_i64 (x := cN b) (by unfold cN; omega) (by unfold cN; omega), wrap_i64 (by unfold cN; omega) (by unfold cN; omega)]
    rw [w1, e0, hab]
    unfold regL
    repeat' (first | refine need_of ⟨by omega, by omega⟩ ?_ | (refine cond_mk (fun h1 => ?_) (fun h1 => ?_) <;> first | replace h1 := of_decide_eq_true h1 | replace h1 := of_decide_eq_false h1 | replace h1 := eq_of_beq h1 | replace h1 := ne_of_beq_false h1))
    all_goals
      refine ⟨?_, rfl⟩
      simp only
      first
        | (exfalso; omega)
        | rw [if_pos (by omega)]
        | rw [if_neg (by omega), if_pos (by omega)]
        | rw [if_neg (by omega), if_neg (by omega)]
/-- Is a text a name, and no register? -/
def legalL (s : List UInt8) : Bool := decide (0 < s.length) && decide (s.length ≤ 32) && isLet (s.getD 0 0) && s.all (fun c => isLet c || isDig c) && !(regL s).2.2
theorem rowN_pos {s set : List UInt8} (h : 0 < s.length) : 0 < rowN s set ↔ set.contains (s.getD 0 0) = true := rowN_step s set 0 (Nat.zero_le _) h
theorem rowN_all {s set : List UInt8} : rowN s set = s.length ↔ s.all (fun c => set.contains c) = true := by
  unfold rowN
  induction s with
  | nil => simp
  | cons c s ih =>
    rw [List.takeWhile_cons, List.all_cons]
    cases hc : set.contains c with
    | true => simp only [if_true, List.length_cons, Bool.true_and]; rw [← ih]; omega
    | false => simp
theorem lset : (⟨#[97, 98, 99, 100, 101, 102, 103, 104, 105, 106, 107, 108, 109, 110, 111, 112, 113, 114, 115, 116, 117, 118, 119, 120, 121, 122, 65, 66, 67, 68, 69, 70, 71, 72, 73, 74, 75, 76, 77, 78, 79, 80, 81, 82, 83, 84, 85, 86, 87, 88, 89, 90, 95]⟩ : ByteArray).data.toList = lettersL := rfl
theorem gset : (⟨#[97, 98, 99, 100, 101, 102, 103, 104, 105, 106, 107, 108, 109, 110, 111, 112, 113, 114, 115, 116, 117, 118, 119, 120, 121, 122, 65, 66, 67, 68, 69, 70, 71, 72, 73, 74, 75, 76, 77, 78, 79, 80, 81, 82, 83, 84, 85, 86, 87, 88, 89, 90, 95, 48, 49, 50, 51, 52, 53, 54, 55, 56, 57]⟩ : ByteArray).data.toList = lettersL ++ digitsL := rfl
theorem toList_nil {s : ByteArray} : (s.toList == []) = decide (s.size = 0) := by
  have : s.toList = s.data.toList := ByteArray.toList_eq s
  rw [this]
  have hsz : s.data.toList.length = s.size := by simp
  cases hl : s.data.toList with
  | nil => rw [hl] at hsz; simp at hsz; simp [← hsz]
  | cons a l => rw [hl] at hsz; simp at hsz; simp [← hsz]
theorem legal_hc (s : ByteArray) (h : Hp) (hs : s.size ≤ 9223372036854775807) : HCp Tryd.prog 28 [.string s] h (.bool (legalL s.data.toList)) := by
  refine hcp_of mixed Tryd.func28 (by kernel_rfl) (t_lex_Legal_eq s) ?_
  have hsz : s.data.toList.length = s.size := by simp
  unfold t_lex_Legal
  refine call_ibb (register_hc s h) ?_
  unfold legalL
  rw [hsz]
  refine cond_mk (fun h1 => ?_) (fun h1 => ?_)
  · have h1 : s.size ≠ 0 := by rw [toList_nil] at h1; simpa using h1
    refine cond_mk (fun h2 => ?_) (fun h2 => ?_)
    · have h2 := of_decide_eq_true h2
      refine call_int (row_hc s _ h hs) ?_
      rw [lset]
      have hp := rowN_pos (set := lettersL) (by omega : 0 < s.data.toList.length)
      rw [letters_is] at hp
      refine cond_mk (fun h3 => ?_) (fun h3 => ?_)
      · have h3 := of_decide_eq_true h3
        refine call_int (row_hc s _ h hs) ?_
        rw [gset]
        have ha := rowN_all (s := s.data.toList) (set := lettersL ++ digitsL)
        have hg : (fun c => (lettersL ++ digitsL).contains c) = (fun c => isLet c || isDig c) := funext glued_is
        rw [hg] at ha
        rw [show decide (0 < s.size) = true from decide_eq_true (by omega), show decide (s.size ≤ 32) = true from decide_eq_true (by omega), hp.1 (by omega)]
        refine cond_mk (fun h4 => ?_) (fun h4 => ?_)
        · have h4 := eq_of_beq h4
          rw [ha.1 (by omega)]
          exact ⟨rfl, rfl⟩
        · have h4 := ne_of_beq_false h4
          have : s.data.toList.all (fun c => isLet c || isDig c) = false := by
            cases hx : s.data.toList.all (fun c => isLet c || isDig c) with
            | false => rfl
            | true => exact (h4 (by rw [ha.2 hx]; omega)).elim
          rw [this]
          exact ⟨rfl, rfl⟩
      · have h3 := of_decide_eq_false h3
        have : isLet (s.data.toList.getD 0 0) = false := by
          cases hx : isLet (s.data.toList.getD 0 0) with
          | false => rfl
          | true => have := hp.2 hx; omega
        rw [this]
        exact ⟨by simp, rfl⟩
    · have h2 := of_decide_eq_false h2
      rw [show decide (s.size ≤ 32) = false from decide_eq_false (by omega)]
      exact ⟨by simp, rfl⟩
  · have h1 : s.size = 0 := by rw [toList_nil] at h1; simpa using h1
    rw [show decide (0 < s.size) = false from decide_eq_false (by omega)]
    exact ⟨by simp, rfl⟩
end Go.Sx

set_option linter.unusedVariables false
set_option maxRecDepth 100000
namespace Go.Sx
open Go.Proofs Go.MapKept Go.WideAt Go.WideMaps Go.Maps Go.RowKit Go.WideElems Go.WideElems
/-- How an element reads where nothing is asked of it. -/
def anyR : Value → Option (DataW Unit × List MemPlace) := fun _ => some (.nil, [])
theorem und9 : Tryd.prog.underlying 9 = some .string := by kernel_rfl
/-- The keys of a map, sorted. -/
def keysOf (D : List (ByteArray × Value)) : List (List UInt8) := (D.map fun p => p.1.data.toList).mergeSort fun x y => decide (x ≤ y)
theorem rd_str {x : MapEntry} {s : ByteArray} (hk : x.key = .string s) (hs : s.size ≤ maxLen) : WideElems.rd Tryd.prog 9 anyR x = some (.string s.data.toList, .nil) := by
  unfold WideElems.rd
  rw [hk, keyOf_string_mk und9 hs]
  rfl
theorem MapB.owns {W : World} {g : Nat} {D : List (ByteArray × Value)} (m : MapB W.heap g D) (hl : D.length ≤ maxLen) :
    ∃ D0 : DataW Unit, W.ownsMap Tryd.prog 9 anyR g D.length D0 ∧ (strKeys D0).Perm (D.map fun p => p.1.data.toList) ∧ Maps.size D0 = D.length := by
  obtain ⟨es, clock, hg, he, hs, hd⟩ := m
  have hlen : es.size = D.length := by
    have := congrArg List.length he
    simpa using this
  have hrd : es.toList.map (WideElems.rg Tryd.prog 9 anyR) = D.map fun p => (Lit.string p.1.data.toList, DataW.nil) := by
    apply List.ext_getElem?
    intro i
    have h1 : (es.toList.map (fun e => (e.key, e.val)))[i]? = (D.map (fun p => (Value.string p.1, p.2)))[i]? := by rw [he]
    simp only [List.getElem?_map] at h1 ⊢
    rcases Nat.lt_or_ge i D.length with hi | hi
    · rw [List.getElem?_eq_getElem hi, List.getElem?_eq_getElem (show i < es.toList.length by simp; omega)] at h1 ⊢
      simp only [Option.map_some, Option.some.injEq, Prod.mk.injEq] at h1 ⊢
      exact WideElems.rg_of (rd_str h1.1 (hd _ (List.getElem_mem hi)))
    · rw [List.getElem?_eq_none hi, List.getElem?_eq_none (show es.toList.length ≤ i by simp; omega)]
      rfl
  refine ⟨_, ⟨es, clock, hg, ⟨by omega, hs, ?_⟩, by omega, rfl⟩, ?_, ?_⟩
  · intro x hx
    obtain ⟨i, hi, rfl⟩ := List.getElem_of_mem hx
    have hi' : i < D.length := by simp at hi; omega
    have h1 : (es.toList.map (fun e => (e.key, e.val)))[i]? = (D.map (fun p => (Value.string p.1, p.2)))[i]? := by rw [he]
    simp only [List.getElem?_map, List.getElem?_eq_getElem hi', List.getElem?_eq_getElem hi, Option.map_some, Option.some.injEq, Prod.mk.injEq] at h1
    exact ⟨_, rd_str h1.1 (hd _ (List.getElem_mem hi'))⟩
  · show List.Perm (((es.toList.map (WideElems.rg Tryd.prog 9 anyR)).foldr DataW.insert []).map fun p => strOf p.1) _
    rw [hrd]
    refine ((WideShapes.sorted_perm _).map _).trans ?_
    rw [List.map_map]
    exact List.Perm.refl _
  · show ((es.toList.map (WideElems.rg Tryd.prog 9 anyR)).foldr DataW.insert []).length = D.length
    rw [hrd, length_sorted, List.length_map]
theorem World.alloc_of {W : World} {h : Hp} {o : Obj} (hW : W.heap = h.push o) : ({ W with heap := h } : World).alloc o = W := by
  cases W
  simp only at hW
  subst hW
  rfl
theorem SameO.alloc (w : World) (o : Obj) : SameO w (w.alloc o) := ⟨rfl, rfl, rfl⟩
/-- One's own row, as a slice of chunks of one cell. -/
theorem SL.of_row {W : World} {b : Nat} {e : TypeId} {v : Value} {xs : List Value} (r : W.ownsRow b e 1 v xs.length xs) : ∃ p l c, v = .slice p l c ∧ SL W.heap b e 1 p l c (xs.map fun x => [x]) := by
  have hfl : ∀ ys : List Value, (ys.map fun x => [x]).flatten = ys := by
    intro ys
    induction ys with
    | nil => rfl
    | cons y ys ih => simp [ih]
  obtain ⟨h1, h2⟩ := r
  rcases h2 with ⟨hv, hn⟩ | ⟨g, cap, cur, hv, hb, hg, hle, hc, hs, ht⟩
  · have : xs = [] := List.eq_nil_of_length_eq_zero hn
    subst this
    exact ⟨none, 0, 0, hv, SL.nil _ _ _ _⟩
  · refine ⟨some ⟨g, 0, none⟩, xs.length, cap, hv, by simp, by simp, g, [], cur.toList.drop xs.length, rfl, hb, ⟨hle, by unfold maxLen at hc; omega⟩, ?_, ?_⟩
    · rw [hfl, List.nil_append]
      have : xs = cur.toList.take xs.length := by rw [← ht]; simp
      unfold Box
      rw [hg]
      congr 2
      conv => lhs; rw [← Array.toArray_toList (xs := cur), ← List.take_append_drop xs.length cur.toList]
      rw [← this]
    · rw [List.length_drop, Array.length_toList, hs]; omega
end Go.Sx

set_option linter.unusedVariables false
set_option maxRecDepth 100000
namespace Go.Sx
open Go.Proofs
/-- Terms: names so many times. -/
abbrev Tms := List (ByteArray × Nat)
def encT (p : ByteArray × Nat) : List Value := [.string p.1, .int .u32 p.2]
def vm (D : Tms) : List (ByteArray × Value) := D.map fun p => (p.1, Value.int .u32 p.2)
def getN (D : Tms) (s : ByteArray) : Nat := ((D.find? fun p => decide (s = p.1)).map (·.2)).getD 0
def putN (D : Tms) (s : ByteArray) (v : Nat) : Tms := if (D.find? fun p => decide (s = p.1)).isSome then D.map fun p => if s = p.1 then (p.1, v) else p else D ++ [(s, v)]
/-- A term laid into a map. -/
def addT (D : Tms) (p : ByteArray × Nat) : Tms := putN D p.1 ((getN D p.1 + p.2) % 4294967296)
/-- The terms of a map: its names sorted, those with no coefficient struck. -/
def madeL (D : Tms) : Tms := (keysOf (vm D)).filterMap fun k => if getN D ⟨k.toArray⟩ = 0 then none else some (⟨k.toArray⟩, getN D ⟨k.toArray⟩)
theorem find_vm (D : Tms) (s : ByteArray) : (vm D).find? (fun p => decide (s = p.1)) = (D.find? fun p => decide (s = p.1)).map fun p => (p.1, Value.int .u32 p.2) := by
  unfold vm
  induction D with
  | nil => rfl
  | cons p D ih =>
    by_cases h : s = p.1
    · simp [h]
    · simp only [List.map_cons, List.find?_cons, decide_eq_false h]
      exact ih
theorem look_vm (D : Tms) (s : ByteArray) : look (vm D) s = (D.find? fun p => decide (s = p.1)).map fun p => Value.int .u32 p.2 := by
  unfold look
  rw [find_vm, Option.map_map]
  rfl
theorem look_getD (D : Tms) (s : ByteArray) : (look (vm D) s).getD (.int .u32 0) = .int .u32 (getN D s) := by
  rw [look_vm]
  unfold getN
  cases D.find? fun p => decide (s = p.1) <;> rfl
theorem upd_vm (D : Tms) (s : ByteArray) (v : Nat) : upd (vm D) s (.int .u32 v) = vm (putN D s v) := by
  unfold upd putN
  rw [look_vm]
  cases h : (D.find? fun p => decide (s = p.1)) with
  | none => simp [vm]
  | some q =>
    simp only [Option.map_some, Option.isSome_some, if_true, vm, List.map_map]
    refine List.map_congr_left fun p hp => ?_
    simp only [Function.comp]
    split <;> simp_all
theorem putN_length (D : Tms) (s : ByteArray) (v : Nat) : (putN D s v).length ≤ D.length + 1 := by
  unfold putN
  split <;> simp
theorem info33 : (Tryd.prog.info? 52).bind (·.zero) = some (.int .u32 0) := by kernel_rfl
theorem und67 : Tryd.prog.underlying 53 = some (.slice 86) := by kernel_rfl
theorem termZ : (Tryd.prog.info? 86).map (fun i => (i.zero, i.size, i.bytes)) = some (some (.agg #[.string ⟨#[]⟩, .int .u32 0]), 2, 24) := by kernel_rfl
/-- Terms that lie in a heap, to be read. -/
structure VwT (h : Hp) (p : Option Addr) (l : Nat) (us : Tms) : Prop where
  len : l = us.length
  cells : ∀ i, (hi : i < us.length) → ∃ a, p = some a ∧ cellsAt h (a.add (i * 2)) 0 (encT us[i])
theorem VwT.keep {ws : List Nat} {h h' : Hp} {p : Option Addr} {l : Nat} {us : Tms} (v : VwT h p l us) (k : Ch ws h h') (hw : ∀ i, i ∈ blkOf p → i ∉ ws) : VwT h' p l us :=
  ⟨v.len, fun i hi => by
    obtain ⟨a, ha, hc⟩ := v.cells i hi
    exact ⟨a, ha, cellsAt_keep k (by rw [add_block]; exact hw _ (by rw [ha]; simp [blkOf])) _ _ hc⟩⟩
theorem SL.vwT {h : Hp} {b : Nat} {e : TypeId} {p : Option Addr} {l c : Nat} {us : Tms} (s : SL h b e 2 p l c (us.map encT)) : VwT h p l us := by
  refine ⟨by rw [s.1, List.length_map], fun i hi => ?_⟩
  obtain ⟨a, ha, hc⟩ := s.cells (i := i) (by simpa using hi)
  rw [List.getElem_map] at hc
  exact ⟨a, ha, hc⟩
/-- A Lin: terms and a number. -/
structure Lin where
  terms : Tms
  num : Nat
/-- What is handed about for a Lin. -/
def linV (p : Option Addr) (l c : Nat) (x : Lin) : Value := .agg #[.slice p l c, .int .u32 x.num]
def nrm (l : Tms) : Tms := madeL (l.foldl addT [])
def linTimes (x : Lin) (n : Nat) : Lin := ⟨nrm (x.terms.map fun p => (p.1, p.2 * n % 4294967296)), x.num * n % 4294967296⟩
def linAdd (x y : Lin) : Lin := ⟨nrm (x.terms ++ y.terms), (x.num + y.num) % 4294967296⟩
theorem wrap_u32_mod (x : Int) : IntKind.wrap .u32 x = x % 4294967296 := by
  simp only [IntKind.wrap]
  rfl
theorem cast_mod (a : Nat) : ((a % 4294967296 : Nat) : Int) = (a : Int) % 4294967296 := Int.natCast_emod a 4294967296
end Go.Sx

set_option linter.unusedVariables false
set_option linter.unusedSimpArgs false
set_option maxRecDepth 100000
namespace Go.Sx
open Go.Proofs
def ltN (a b : ByteArray) : Prop := a.data.toList < b.data.toList
instance (a b : ByteArray) : Decidable (ltN a b) := inferInstanceAs (Decidable (a.data.toList < b.data.toList))
theorem ltN_irrefl (a : ByteArray) : ¬ ltN a a := List.lt_irrefl (α := UInt8) _
theorem ltN_trans {a b c : ByteArray} (h : ltN a b) (k : ltN b c) : ltN a c := List.lt_trans (α := UInt8) h k
theorem baExt {a b : ByteArray} (h : a.data.toList = b.data.toList) : a = b := by
  cases a; cases b
  simp only at h
  rw [Array.toList_inj.1 h]
theorem ltN_tri (a b : ByteArray) (h : ¬ ltN a b) (k : ¬ ltN b a) : a = b :=
  baExt (List.le_antisymm (α := UInt8) (List.not_lt.1 k) (List.not_lt.1 h))
theorem ltN_ne {a b : ByteArray} (h : ltN a b) : a ≠ b := fun e => by subst e; exact ltN_irrefl _ h
theorem ltN_asymm {a b : ByteArray} (h : ltN a b) : ¬ ltN b a := fun k => ltN_irrefl _ (ltN_trans h k)
/-- Names rising, no coefficient zero. -/
structure Nf (l : Tms) : Prop where
  sorted : l.Pairwise fun p q => ltN p.1 q.1
  coef : ∀ p, p ∈ l → p.2 ≠ 0 ∧ p.2 < 4294967296
def cf : Tms → ByteArray → Nat
  | [], _ => 0
  | p :: l, s => (if p.1 = s then p.2 else 0) + cf l s
theorem cf_nil (s : ByteArray) : cf [] s = 0 := rfl
theorem cf_cons (p : ByteArray × Nat) (l : Tms) (s : ByteArray) : cf (p :: l) s = (if p.1 = s then p.2 else 0) + cf l s := rfl
theorem Nf.tail {p : ByteArray × Nat} {l : Tms} (h : Nf (p :: l)) : Nf l := ⟨(List.pairwise_cons.1 h.1).2, fun q hq => h.2 q (List.mem_cons_of_mem _ hq)⟩
theorem Nf.head {p : ByteArray × Nat} {l : Tms} (h : Nf (p :: l)) : ∀ q, q ∈ l → ltN p.1 q.1 := (List.pairwise_cons.1 h.1).1
theorem Nf.nil : Nf [] := ⟨List.Pairwise.nil, by simp⟩
theorem cf_zero {l : Tms} {s : ByteArray} (h : ∀ p, p ∈ l → p.1 ≠ s) : cf l s = 0 := by
  induction l with
  | nil => rfl
  | cons p l ih =>
    rw [cf_cons, if_neg (h p (List.mem_cons_self ..)), ih fun q hq => h q (List.mem_cons_of_mem _ hq)]
theorem cf_append (l m : Tms) (s : ByteArray) : cf (l ++ m) s = cf l s + cf m s := by
  induction l with
  | nil => simp [cf]
  | cons p l ih => simp only [List.cons_append, cf, ih]; omega
theorem Nf.cf_head {p : ByteArray × Nat} {l : Tms} (h : Nf (p :: l)) : cf (p :: l) p.1 = p.2 := by
  rw [cf_cons, if_pos rfl, cf_zero fun q hq => (ltN_ne (h.head q hq)).symm]
  rfl
theorem Nf.cf_low {l : Tms} {s : ByteArray} (h : ∀ p, p ∈ l → ltN s p.1) : cf l s = 0 := cf_zero fun p hp => (ltN_ne (h p hp)).symm
theorem Nf.uniq : ∀ {l m : Tms}, Nf l → Nf m → (∀ s, cf l s % 4294967296 = cf m s % 4294967296) → l = m
  | [], [], _, _, _ => rfl
  | [], q :: m, _, hm, h => by
    have := h q.1
    rw [hm.cf_head] at this
    have hq := hm.coef q (List.mem_cons_self ..)
    simp only [cf] at this
    omega
  | p :: l, [], hl, _, h => by
    have := h p.1
    rw [hl.cf_head] at this
    have hq := hl.coef p (List.mem_cons_self ..)
    simp only [cf] at this
    omega
  | p :: l, q :: m, hl, hm, h => by
    have hp := hl.coef p (List.mem_cons_self ..)
    have hq := hm.coef q (List.mem_cons_self ..)
    by_cases h1 : ltN p.1 q.1
    · exfalso
      have := h p.1
      rw [hl.cf_head, Nf.cf_low (l := q :: m) (s := p.1) (by
        intro r hr
        rcases List.mem_cons.1 hr with rfl | hr
        · exact h1
        · exact ltN_trans h1 (hm.head r hr))] at this
      omega
    · by_cases h2 : ltN q.1 p.1
      · exfalso
        have := h q.1
        rw [hm.cf_head, Nf.cf_low (l := p :: l) (s := q.1) (by
          intro r hr
          rcases List.mem_cons.1 hr with rfl | hr
          · exact h2
          · exact ltN_trans h2 (hl.head r hr))] at this
        omega
      · have he := ltN_tri _ _ h1 h2
        have h3 := h p.1
        rw [hl.cf_head, he, hm.cf_head] at h3
        have hpq : p = q := by
          obtain ⟨a, b⟩ := p
          obtain ⟨c, d⟩ := q
          simp only at he h3 hp hq
          subst he
          congr 1
          rw [Nat.mod_eq_of_lt hp.2, Nat.mod_eq_of_lt hq.2] at h3
          exact h3
        subst hpq
        congr 1
        refine Nf.uniq hl.tail hm.tail fun s => ?_
        by_cases hs : p.1 = s
        · subst hs
          rw [Nf.cf_low hl.head, Nf.cf_low hm.head]
        · have := h s
          simp only [cf, if_neg hs, Nat.zero_add] at this
          exact this
/-! What 'made' makes. -/
theorem getN_nil (s : ByteArray) : getN [] s = 0 := rfl
theorem getN_cons (p : ByteArray × Nat) (D : Tms) (s : ByteArray) : getN (p :: D) s = if s = p.1 then p.2 else getN D s := by
  unfold getN
  rw [List.find?_cons]
  by_cases h : s = p.1
  · simp [h]
  · simp [h]
theorem getN_append (D : Tms) (s t : ByteArray) (v : Nat) : getN (D ++ [(t, v)]) s = if (D.find? fun p => decide (s = p.1)).isSome then getN D s else if s = t then v else 0 := by
  induction D with
  | nil => simp [getN_cons, getN_nil]
  | cons p D ih =>
    rw [List.cons_append, getN_cons, getN_cons, ih, List.find?_cons]
    by_cases h : s = p.1
    · simp [h]
    · simp only [decide_eq_false h, if_neg h]
theorem getN_none {D : Tms} {s : ByteArray} (h : (D.find? fun p => decide (s = p.1)).isSome = false) : getN D s = 0 := by
  unfold getN
  cases hf : (D.find? fun p => decide (s = p.1)) with
  | none => rfl
  | some x => rw [hf] at h; cases h
theorem getN_map (D : Tms) (t : ByteArray) (v : Nat) (s : ByteArray) : getN (D.map fun p => if t = p.1 then (p.1, v) else p) s = if s = t ∧ (D.find? fun p => decide (t = p.1)).isSome then v else getN D s := by
  induction D with
  | nil => simp [getN_nil]
  | cons p D ih =>
    rw [List.map_cons, getN_cons, ih, getN_cons, List.find?_cons]
    by_cases h : t = p.1
    · subst h
      by_cases k : s = p.1 <;> simp [k]
    · rw [if_neg h]
      by_cases k : s = p.1
      · subst k
        have : ¬ p.1 = t := fun e => h e.symm
        simp [this]
      · simp only [decide_eq_false h, if_neg k]
theorem getN_putN (D : Tms) (t : ByteArray) (v : Nat) (s : ByteArray) : getN (putN D t v) s = if s = t then v else getN D s := by
  unfold putN
  split
  · rename_i hh
    rw [getN_map]
    by_cases k : s = t <;> simp [k, hh]
  · rename_i hh
    rw [getN_append]
    by_cases k : s = t
    · subst k
      simp [hh]
    · rw [if_neg k]
      split
      · rfl
      · rename_i h2
        rw [getN_none (Bool.eq_false_iff.2 h2)]
theorem getN_foldl (l : Tms) (s : ByteArray) : ∀ D : Tms, getN (l.foldl addT D) s % 4294967296 = (getN D s + cf l s) % 4294967296 := by
  induction l with
  | nil => intro D; simp [cf]
  | cons p l ih =>
    intro D
    rw [List.foldl_cons, ih]
    unfold addT
    rw [cf_cons, getN_putN]
    by_cases h : s = p.1
    · subst h
      rw [if_pos rfl, if_pos rfl, Nat.mod_add_mod]
      congr 1; omega
    · rw [if_neg h, if_neg fun e => h e.symm]
      congr 1; omega
theorem putN_nodup {D : Tms} (h : (D.map (·.1)).Nodup) (t : ByteArray) (v : Nat) : ((putN D t v).map (·.1)).Nodup := by
  unfold putN
  have h1 : (D.find? fun p => decide (t = p.1)).isSome = true ↔ t ∈ D.map (·.1) := by
    rw [List.find?_isSome]
    simp [eq_comm]
  split
  · have e : (D.map fun p => if t = p.1 then (p.1, v) else p).map (·.1) = D.map (·.1) := by
      rw [List.map_map]
      refine List.map_congr_left fun p hp => ?_
      simp only [Function.comp]
      split <;> rfl
    rw [e]; exact h
  · rename_i hn
    rw [List.map_append, List.nodup_append]
    refine ⟨h, by simp, ?_⟩
    rintro a ha b hb rfl
    simp only [List.map_cons, List.map_nil, List.mem_singleton] at hb
    subst hb
    exact hn (h1.2 ha)
theorem foldl_keys (l : Tms) : ∀ D : Tms, (D.map (·.1)).Nodup → ((l.foldl addT D).map (·.1)).Nodup := by
  induction l with
  | nil => intro D h; exact h
  | cons p l ih =>
    intro D h
    rw [List.foldl_cons]
    exact ih _ (putN_nodup h _ _)
theorem getN_lt (l : Tms) : ∀ D : Tms, (∀ s, getN D s < 4294967296) → ∀ s, getN (l.foldl addT D) s < 4294967296 := by
  induction l with
  | nil => intro D h; exact h
  | cons p l ih =>
    intro D h
    rw [List.foldl_cons]
    refine ih _ fun s => ?_
    unfold addT
    rw [getN_putN]
    split
    · exact Nat.mod_lt _ (by decide)
    · exact h s
theorem getN_out {D : Tms} {s : ByteArray} (h : s ∉ D.map (·.1)) : getN D s = 0 := by
  refine getN_none ?_
  cases hf : (D.find? fun p => decide (s = p.1)).isSome with
  | false => rfl
  | true =>
    rw [List.find?_isSome] at hf
    obtain ⟨x, hx, hs⟩ := hf
    exact absurd (List.mem_map.2 ⟨x, hx, (of_decide_eq_true hs).symm⟩) h
/-- Of sorted names those that have a coefficient. -/
def pick (g : ByteArray → Nat) (ks : List (List UInt8)) : Tms := ks.filterMap fun k => if g ⟨k.toArray⟩ = 0 then none else some (⟨k.toArray⟩, g ⟨k.toArray⟩)
theorem cf_pick (g : ByteArray → Nat) (s : ByteArray) : ∀ ks : List (List UInt8), ks.Nodup → cf (pick g ks) s = if s.data.toList ∈ ks then g s else 0 := by
  intro ks
  induction ks with
  | nil => intro _; simp [pick, cf]
  | cons k ks ih =>
    intro h
    rw [List.nodup_cons] at h
    have ih := ih h.2
    unfold pick at ih ⊢
    rw [List.filterMap_cons]
    have e1 : (⟨k.toArray⟩ : ByteArray) = s ↔ s.data.toList = k := by
      constructor
      · rintro rfl; simp
      · intro e; exact baExt (by simp [e])
    by_cases hk : s.data.toList = k
    · have hs := e1.2 hk
      rw [hs]
      split
      · rename_i hg
        split at hg
        · rename_i h0
          rw [ih, h0]
          simp
        · cases hg
      · rename_i hg
        split at hg
        · cases hg
        · cases hg
          rw [cf_cons, ih, if_pos rfl, if_neg (by rw [hk]; exact h.1), if_pos (by rw [hk]; simp)]
          rfl
    · have hs : ¬ (⟨k.toArray⟩ : ByteArray) = s := fun e => hk (e1.1 e)
      split
      · rw [ih]
        simp [hk]
      · rename_i hg
        split at hg
        · cases hg
        · cases hg
          rw [cf_cons, ih, if_neg hs]
          simp [hk]
theorem pick_nf (g : ByteArray → Nat) (hg : ∀ s, g s < 4294967296) {ks : List (List UInt8)} (h : ks.Pairwise fun a b => a < b) : Nf (pick g ks) := by
  refine ⟨?_, ?_⟩
  · unfold pick
    refine List.Pairwise.filterMap _ ?_ h
    intro a b hab p hp q hq
    split at hp
    · cases hp
    · split at hq
      · cases hq
      · cases hp; cases hq
        unfold ltN
        simpa using hab
  · intro p hp
    unfold pick at hp
    rw [List.mem_filterMap] at hp
    obtain ⟨k, _, hk⟩ := hp
    split at hk
    · cases hk
    · rename_i h0
      cases hk
      exact ⟨h0, hg _⟩
theorem keysOf_perm (D : Tms) : (keysOf (vm D)).Perm (D.map fun p => p.1.data.toList) := by
  unfold keysOf vm
  rw [List.map_map]
  exact List.mergeSort_perm _ _
theorem keysOf_sorted {D : Tms} (h : (D.map (·.1)).Nodup) : (keysOf (vm D)).Pairwise fun a b => a < b := by
  have hn : (keysOf (vm D)).Nodup := by
    refine (keysOf_perm D).nodup_iff.2 ?_
    have : (D.map fun p => p.1.data.toList) = (D.map (·.1)).map fun s => s.data.toList := by rw [List.map_map]; rfl
    rw [this]
    exact List.pairwise_map.2 (h.imp fun hne e => hne (baExt e))
  have hs : (keysOf (vm D)).Pairwise fun a b => a ≤ b := by
    unfold keysOf
    refine (List.pairwise_mergeSort ?_ ?_ _).imp ?_
    · intro a b c h1 h2
      exact decide_eq_true (List.le_trans (α := UInt8) (of_decide_eq_true h1) (of_decide_eq_true h2))
    · intro a b
      simp only [Bool.or_eq_true, decide_eq_true_eq]
      exact List.le_total (α := UInt8) a b
    · intro a b hab
      exact of_decide_eq_true hab
  refine (hs.and hn).imp ?_
  rintro a b ⟨h1, h2⟩
  by_cases hlt : a < b
  · exact hlt
  · exact absurd (List.le_antisymm (α := UInt8) h1 (List.not_lt.1 hlt)) h2
theorem nrm_pick (l : Tms) : nrm l = pick (getN (l.foldl addT [])) (keysOf (vm (l.foldl addT []))) := rfl
theorem nrm_nf (l : Tms) : Nf (nrm l) := by
  rw [nrm_pick]
  exact pick_nf _ (getN_lt l [] (fun s => by rw [getN_nil]; decide)) (keysOf_sorted (foldl_keys l [] (by simp)))
theorem cf_nrm (l : Tms) (s : ByteArray) : cf (nrm l) s = cf l s % 4294967296 := by
  have h1 := getN_foldl l s []
  rw [getN_nil, Nat.zero_add, Nat.mod_eq_of_lt (getN_lt l [] (fun s => by rw [getN_nil]; decide) s)] at h1
  rw [nrm_pick, cf_pick _ _ _ ((keysOf_sorted (foldl_keys l [] (by simp))).imp fun h e => by subst e; exact List.lt_irrefl (α := UInt8) _ h)]
  split
  · exact h1
  · rename_i hn
    rw [← h1, getN_out]
    intro hm
    refine hn ((keysOf_perm _).mem_iff.2 ?_)
    obtain ⟨p, hp, rfl⟩ := List.mem_map.1 hm
    exact List.mem_map.2 ⟨p, hp, rfl⟩
/-! The reference's sums and products. -/
def timesN (n : Nat) (l : Tms) : Tms := l.filterMap fun p => if p.2 * n % 4294967296 = 0 then none else some (p.1, p.2 * n % 4294967296)
def addF : Nat → Tms → Tms → Tms
  | 0, _, _ => []
  | n + 1, x, y => match x, y with
    | [], [] => []
    | p :: x, [] => p :: addF n x []
    | [], q :: y => q :: addF n [] y
    | p :: x, q :: y => if ltN p.1 q.1 then p :: addF n x (q :: y) else if ltN q.1 p.1 then q :: addF n (p :: x) y else if (p.2 + q.2) % 4294967296 = 0 then addF n x y else (p.1, (p.2 + q.2) % 4294967296) :: addF n x y
def addM (x y : Tms) : Tms := addF (x.length + y.length) x y
theorem timesN_nf {n : Nat} {l : Tms} (h : Nf l) : Nf (timesN n l) := by
  refine ⟨?_, ?_⟩
  · unfold timesN
    refine List.Pairwise.filterMap _ ?_ h.1
    intro a b hab p hp q hq
    split at hp
    · cases hp
    · split at hq
      · cases hq
      · cases hp; cases hq
        exact hab
  · intro p hp
    unfold timesN at hp
    rw [List.mem_filterMap] at hp
    obtain ⟨k, _, hk⟩ := hp
    split at hk
    · cases hk
    · rename_i h0
      cases hk
      exact ⟨h0, Nat.mod_lt _ (by decide)⟩
theorem cf_timesN (n : Nat) (l : Tms) (s : ByteArray) : cf (timesN n l) s % 4294967296 = cf l s * n % 4294967296 := by
  induction l with
  | nil => simp [timesN, cf]
  | cons p l ih =>
    have hc : cf (timesN n (p :: l)) s = (if p.1 = s then p.2 * n % 4294967296 else 0) + cf (timesN n l) s := by
      unfold timesN
      rw [List.filterMap_cons]
      split
      · rename_i hg
        split at hg
        · rename_i h0
          rw [h0]; simp
        · cases hg
      · rename_i hg
        split at hg
        · cases hg
        · cases hg
          rfl
    rw [hc, Nat.add_mod, ih, cf_cons]
    by_cases h : p.1 = s
    · rw [if_pos h, if_pos h, Nat.add_mul, Nat.mod_mod, ← Nat.add_mod]
    · rw [if_neg h, if_neg h, Nat.zero_add]; simp
theorem mem_addF {n : Nat} {x y : Tms} {r : ByteArray × Nat} (h : r ∈ addF n x y) : (∃ p, p ∈ x ∧ p.1 = r.1) ∨ (∃ q, q ∈ y ∧ q.1 = r.1) := by
  induction n generalizing x y with
  | zero => simp [addF] at h
  | succ n ih =>
    rcases x with _ | ⟨p, x⟩ <;> rcases y with _ | ⟨q, y⟩
    · simp [addF] at h
    · simp only [addF, List.mem_cons] at h
      rcases h with rfl | h
      · exact .inr ⟨_, by simp, rfl⟩
      · rcases ih h with ⟨a, ha, e⟩ | ⟨a, ha, e⟩
        · simp at ha
        · exact .inr ⟨a, by simp [ha], e⟩
    · simp only [addF, List.mem_cons] at h
      rcases h with rfl | h
      · exact .inl ⟨_, by simp, rfl⟩
      · rcases ih h with ⟨a, ha, e⟩ | ⟨a, ha, e⟩
        · exact .inl ⟨a, by simp [ha], e⟩
        · simp at ha
    · simp only [addF] at h
      split at h
      · rcases List.mem_cons.1 h with rfl | h
        · exact .inl ⟨_, by simp, rfl⟩
        · rcases ih h with ⟨a, ha, e⟩ | ⟨a, ha, e⟩
          · exact .inl ⟨a, by simp [ha], e⟩
          · exact .inr ⟨a, ha, e⟩
      · split at h
        · rcases List.mem_cons.1 h with rfl | h
          · exact .inr ⟨_, by simp, rfl⟩
          · rcases ih h with ⟨a, ha, e⟩ | ⟨a, ha, e⟩
            · exact .inl ⟨a, ha, e⟩
            · exact .inr ⟨a, by simp [ha], e⟩
        · split at h
          · rcases ih h with ⟨a, ha, e⟩ | ⟨a, ha, e⟩
            · exact .inl ⟨a, by simp [ha], e⟩
            · exact .inr ⟨a, by simp [ha], e⟩
          · rcases List.mem_cons.1 h with rfl | h
            · exact .inl ⟨p, by simp, rfl⟩
            · rcases ih h with ⟨a, ha, e⟩ | ⟨a, ha, e⟩
              · exact .inl ⟨a, by simp [ha], e⟩
              · exact .inr ⟨a, by simp [ha], e⟩
theorem Nf.cons {p : ByteArray × Nat} {l : Tms} (h : Nf l) (hc : p.2 ≠ 0 ∧ p.2 < 4294967296) (hl : ∀ q, q ∈ l → ltN p.1 q.1) : Nf (p :: l) :=
  ⟨List.pairwise_cons.2 ⟨hl, h.1⟩, fun q hq => by rcases List.mem_cons.1 hq with rfl | hq; exact hc; exact h.2 q hq⟩
theorem addF_nf {n : Nat} {x y : Tms} (hx : Nf x) (hy : Nf y) : Nf (addF n x y) := by
  induction n generalizing x y with
  | zero => exact Nf.nil
  | succ n ih =>
    rcases x with _ | ⟨p, x⟩ <;> rcases y with _ | ⟨q, y⟩
    · exact Nf.nil
    · simp only [addF]
      refine (ih Nf.nil hy.tail).cons (hy.2 q (by simp)) fun r hr => ?_
      rcases mem_addF hr with ⟨a, ha, e⟩ | ⟨a, ha, e⟩
      · simp at ha
      · rw [← e]; exact hy.head a ha
    · simp only [addF]
      refine (ih hx.tail Nf.nil).cons (hx.2 p (by simp)) fun r hr => ?_
      rcases mem_addF hr with ⟨a, ha, e⟩ | ⟨a, ha, e⟩
      · rw [← e]; exact hx.head a ha
      · simp at ha
    · simp only [addF]
      split
      · rename_i h1
        refine (ih hx.tail hy).cons (hx.2 p (by simp)) fun r hr => ?_
        rcases mem_addF hr with ⟨a, ha, e⟩ | ⟨a, ha, e⟩
        · rw [← e]; exact hx.head a ha
        · rw [← e]
          rcases List.mem_cons.1 ha with rfl | ha
          · exact h1
          · exact ltN_trans h1 (hy.head a ha)
      · rename_i h1
        split
        · rename_i h2
          refine (ih hx hy.tail).cons (hy.2 q (by simp)) fun r hr => ?_
          rcases mem_addF hr with ⟨a, ha, e⟩ | ⟨a, ha, e⟩
          · rw [← e]
            rcases List.mem_cons.1 ha with rfl | ha
            · exact h2
            · exact ltN_trans h2 (hx.head a ha)
          · rw [← e]; exact hy.head a ha
        · rename_i h2
          have he := ltN_tri _ _ h1 h2
          split
          · exact ih hx.tail hy.tail
          · rename_i h0
            refine (ih hx.tail hy.tail).cons ⟨h0, Nat.mod_lt _ (by decide)⟩ fun r hr => ?_
            rcases mem_addF hr with ⟨a, ha, e⟩ | ⟨a, ha, e⟩
            · rw [← e]; exact hx.head a ha
            · rw [← e]
              show ltN p.1 a.1
              rw [he]; exact hy.head a ha
theorem cf_addF {n : Nat} {x y : Tms} (hn : x.length + y.length ≤ n) (s : ByteArray) : cf (addF n x y) s % 4294967296 = (cf x s + cf y s) % 4294967296 := by
  induction n generalizing x y with
  | zero =>
    have h1 : x = [] := List.length_eq_zero_iff.1 (by omega)
    have h2 : y = [] := List.length_eq_zero_iff.1 (by omega)
    subst h1 h2
    rfl
  | succ n ih =>
    rcases x with _ | ⟨p, x⟩ <;> rcases y with _ | ⟨q, y⟩
    · rfl
    · simp only [addF, cf_cons, cf_nil]
      have := ih (x := []) (y := y) (by simp at hn ⊢; omega)
      simp only [cf_nil] at this
      omega
    · simp only [addF, cf_cons, cf_nil]
      have := ih (x := x) (y := []) (by simp at hn ⊢; omega)
      simp only [cf_nil] at this
      omega
    · simp only [List.length_cons] at hn
      simp only [addF]
      split
      · have := ih (x := x) (y := q :: y) (by simp; omega)
        simp only [cf_cons] at this ⊢
        omega
      · rename_i h1
        split
        · have := ih (x := p :: x) (y := y) (by simp; omega)
          simp only [cf_cons] at this ⊢
          omega
        · rename_i h2
          have he := ltN_tri _ _ h1 h2
          have := ih (x := x) (y := y) (by omega)
          split
          · rename_i h0
            simp only [cf_cons, ← he]
            split
            · omega
            · omega
          · simp only [cf_cons, ← he]
            split
            · omega
            · omega
theorem addM_nf {x y : Tms} (hx : Nf x) (hy : Nf y) : Nf (addM x y) := addF_nf hx hy
theorem cf_addM (x y : Tms) (s : ByteArray) : cf (addM x y) s % 4294967296 = (cf x s + cf y s) % 4294967296 := cf_addF (Nat.le_refl _) s
theorem addF_addM {n : Nat} {x y : Tms} (hx : Nf x) (hy : Nf y) (hn : x.length + y.length ≤ n) : addF n x y = addM x y :=
  Nf.uniq (addF_nf hx hy) (addM_nf hx hy) fun s => by rw [cf_addF hn, cf_addM]
theorem nrm_addM {x y : Tms} (hx : Nf x) (hy : Nf y) : nrm (x ++ y) = addM x y :=
  Nf.uniq (nrm_nf _) (addM_nf hx hy) fun s => by rw [cf_nrm, cf_addM, cf_append, Nat.mod_mod]
theorem cf_map_times (n : Nat) (l : Tms) (s : ByteArray) : cf (l.map fun p => (p.1, p.2 * n % 4294967296)) s % 4294967296 = cf l s * n % 4294967296 := by
  induction l with
  | nil => simp [cf]
  | cons p l ih =>
    simp only [List.map_cons, cf]
    rw [Nat.add_mod, ih]
    by_cases h : p.1 = s
    · rw [if_pos h, if_pos h, Nat.add_mul, Nat.mod_mod, ← Nat.add_mod]
    · rw [if_neg h, if_neg h, Nat.zero_add]; simp
theorem nrm_timesN {n : Nat} {l : Tms} (h : Nf l) : nrm (l.map fun p => (p.1, p.2 * n % 4294967296)) = timesN n l :=
  Nf.uniq (nrm_nf _) (timesN_nf h) fun s => by rw [cf_nrm, cf_timesN, Nat.mod_mod, cf_map_times]
def linT (x : Lin) (n : Nat) : Lin := ⟨timesN n x.terms, x.num * n % 4294967296⟩
def linA (x y : Lin) : Lin := ⟨addM x.terms y.terms, (x.num + y.num) % 4294967296⟩
theorem linTimes_eq {x : Lin} (h : Nf x.terms) (n : Nat) : linTimes x n = linT x n := by unfold linTimes linT; rw [nrm_timesN h]
theorem linAdd_eq {x y : Lin} (h : Nf x.terms) (k : Nf y.terms) : linAdd x y = linA x y := by unfold linAdd linA; rw [nrm_addM h k]
theorem timesN_length (n : Nat) (l : Tms) : (timesN n l).length ≤ l.length := List.length_filterMap_le _ _
theorem addF_length (n : Nat) (x y : Tms) : (addF n x y).length ≤ x.length + y.length := by
  induction n generalizing x y with
  | zero => simp [addF]
  | succ n ih =>
    rcases x with _ | ⟨p, x⟩ <;> rcases y with _ | ⟨q, y⟩
    · simp [addF]
    · have := ih [] y
      simp only [addF, List.length_cons, List.length_nil] at this ⊢; omega
    · have := ih x []
      simp only [addF, List.length_cons, List.length_nil] at this ⊢; omega
    · have h1 := ih x (q :: y)
      have h2 := ih (p :: x) y
      have h3 := ih x y
      simp only [List.length_cons] at h1 h2 ⊢
      simp only [addF]
      split
      · simp only [List.length_cons]; omega
      · split
        · simp only [List.length_cons]; omega
        · split
          · omega
          · simp only [List.length_cons]; omega
theorem addM_length (x y : Tms) : (addM x y).length ≤ x.length + y.length := addF_length _ x y
theorem mem_addM {x y : Tms} {r : ByteArray × Nat} (h : r ∈ addM x y) : (∃ p, p ∈ x ∧ p.1 = r.1) ∨ (∃ q, q ∈ y ∧ q.1 = r.1) := mem_addF h
theorem mem_timesN {n : Nat} {x : Tms} {r : ByteArray × Nat} (h : r ∈ timesN n x) : ∃ p, p ∈ x ∧ p.1 = r.1 := by
  unfold timesN at h
  rw [List.mem_filterMap] at h
  obtain ⟨k, hk, hr⟩ := h
  split at hr
  · cases hr
  · cases hr
    exact ⟨k, hk, rfl⟩
end Go.Sx

set_option linter.unusedVariables false
set_option maxRecDepth 100000
namespace Go.Sx
open Go.Proofs
theorem foldl_length (l : Tms) : ∀ D : Tms, (l.foldl addT D).length ≤ D.length + l.length := by
  induction l with
  | nil => intro D; simp
  | cons p l ih =>
    intro D
    rw [List.foldl_cons]
    have h1 := ih (addT D p)
    have h2 := putN_length D p.1 ((getN D p.1 + p.2) % 4294967296)
    have h3 : (addT D p).length ≤ D.length + 1 := h2
    simp only [List.length_cons]
    omega
theorem VwT.ofLt {h : Hp} {p : Option Addr} {l : Nat} {us : Tms} (v : VwT h p l us) (hn : us ≠ []) : ∀ i, i ∈ blkOf p → i < h.size := by
  intro i hi
  cases us with
  | nil => exact absurd rfl hn
  | cons t us =>
    obtain ⟨a, rfl, hc⟩ := v.cells 0 (by simp)
    simp only [blkOf, List.mem_singleton] at hi
    subst hi
    rw [show a.add (0 * 2) = a by simp [Addr.add]] at hc
    have h1 := hc.1
    unfold hcell at h1
    split at h1
    · rename_i hg
      have := lt_of_get hg
      simpa [add_block] using this
    · cases h1
theorem slZ67 : (Tryd.prog.info? 53).map (fun i => (i.zero, i.size, i.bytes)) = some (some (.slice none 0 0), 1, 24) := by kernel_rfl
end Go.Sx

set_option linter.unusedVariables false
set_option maxRecDepth 100000
namespace Go.Sx
open Go.Proofs
theorem all_step (p : UInt8 → Bool) (l : List UInt8) (k : Nat) (hk : k < l.length) : (l.take (k + 1)).all p = ((l.take k).all p && p (l.getD k 0)) := by
  rw [List.take_succ_eq_append_getElem hk, List.all_append]
  simp [List.getD, List.getElem?_eq_getElem hk]
end Go.Sx

set_option linter.unusedVariables false
set_option maxRecDepth 100000
namespace Go.Sx
open Go.Proofs
/-- What the laid variables must hold. -/
structure Laid (h : Hp) : Prop where
  syn : ∃ v, hcell h ⟨2, 0, none⟩ = some v ∧ isAggV v = false
  rng : ∃ v, hcell h ⟨3, 0, none⟩ = some v ∧ isAggV v = false
theorem Laid.ext {h h' : Hp} (l : Laid h) (e : Ext h h') : Laid h' := by
  obtain ⟨v, h1, h2⟩ := l.syn
  obtain ⟨u, h3, h4⟩ := l.rng
  exact ⟨⟨v, hcell_keep h1 e (by simp), h2⟩, ⟨u, hcell_keep h3 e (by simp), h4⟩⟩
abbrev fnPU : ByteArray := ⟨#[80, 97, 114, 115, 101, 85, 105, 110, 116]⟩
end Go.Sx

set_option linter.unusedVariables false
set_option maxRecDepth 100000
namespace Go.Sx
open Go.Proofs
/-- A digit's worth. -/
def dv (c : UInt8) : Nat := if c.toNat < 58 then c.toNat - 48 else c.toNat - 87
def valB (b : Nat) (l : List UInt8) : Nat := l.foldl (fun n c => n * b + dv c) 0
def isHex (c : UInt8) : Bool := isDig c || (97 ≤ c.toNat && c.toNat ≤ 102)
theorem valB_snoc (b : Nat) (l : List UInt8) (k : Nat) (hk : k < l.length) : valB b (l.take (k + 1)) = valB b (l.take k) * b + dv (l.getD k 0) := by
  unfold valB
  rw [List.take_succ_eq_append_getElem hk, List.foldl_append]
  simp [List.getD, List.getElem?_eq_getElem hk]
theorem foldl_ge (b : Nat) (hb : 0 < b) : ∀ (l : List UInt8) (n : Nat), n ≤ l.foldl (fun n c => n * b + dv c) n
  | [], n => Nat.le_refl _
  | c :: l, n => by
    rw [List.foldl_cons]
    refine Nat.le_trans ?_ (foldl_ge b hb l _)
    have := Nat.mul_le_mul_left n hb
    omega
theorem valB_take_le (b : Nat) (hb : 0 < b) (l : List UInt8) (k : Nat) : valB b (l.take k) ≤ valB b l := by
  conv => rhs; rw [← List.take_append_drop k l]
  unfold valB
  rw [List.foldl_append]
  exact foldl_ge b hb _ _
/-- What strconv's ParseUint says of a row of digits. -/
def puR (b : Nat) (l : List UInt8) : Nat × Value := if l = [] then (0, .iface 157 (.int .i64 2)) else if valB b l < 4294967296 then (valB b l, .nilIface) else (4294967295, .iface 157 (.int .i64 1))
theorem nil_iff (s : ByteArray) : s.data.toList = [] ↔ s.size = 0 := by
  have hsz : s.data.toList.length = s.size := by simp
  constructor
  · intro h; rw [h] at hsz; simpa using hsz.symm
  · intro h; exact List.eq_nil_of_length_eq_zero (by omega)
theorem isHex_iff (c : UInt8) : isHex c = true ↔ (48 ≤ cN c ∧ cN c ≤ 57) ∨ (97 ≤ cN c ∧ cN c ≤ 102) := by
  unfold isHex
  rw [Bool.or_eq_true, isDig_iff]
  unfold cN
  simp only [Bool.and_eq_true, decide_eq_true_eq]
  omega
theorem dv_hex (c : UInt8) (h : isHex c = true) : (cN c ≤ 57 → (dv c : Int) = cN c - 48) ∧ (57 < cN c → (dv c : Int) = cN c - 87) ∧ dv c < 16 := by
  have := (isHex_iff c).1 h
  unfold dv cN at *
  split <;> omega
end Go.Sx

set_option linter.unusedVariables false
set_option maxRecDepth 100000
namespace Go.Sx
open Go.Proofs
def okB (b : Nat) (l : List UInt8) : Prop := l ≠ [] ∧ valB b l < 4294967296
def puPost (b : Nat) (l : List UInt8) (h : Hp) (v : Value) (h' : Hp) : Prop :=
  ((okB b l ∧ v = .tuple #[.int .u64 (valB b l), .nilIface]) ∨ (¬ okB b l ∧ ∃ n a, v = .tuple #[.int .u64 n, .iface 159 (.pointer (some a))])) ∧ Ext h h'
theorem valB16_small : ∀ (l : List UInt8) (n : Nat), (∀ c ∈ l, dv c < 16) → l.foldl (fun n c => n * 16 + dv c) n < (n + 1) * 16 ^ l.length
  | [], n, _ => by simp
  | c :: l, n, hd => by
    rw [List.foldl_cons, List.length_cons, Nat.pow_succ]
    have h1 := valB16_small l (n * 16 + dv c) (fun x hx => hd x (by simp [hx]))
    have h2 := hd c (by simp)
    have h3 : (n * 16 + dv c + 1) * 16 ^ l.length ≤ ((n + 1) * 16) * 16 ^ l.length := Nat.mul_le_mul_right _ (by omega)
    have h4 : ((n + 1) * 16) * 16 ^ l.length = (n + 1) * (16 ^ l.length * 16) := by rw [Nat.mul_assoc, Nat.mul_comm 16]
    omega
end Go.Sx

set_option linter.unusedVariables false
set_option maxRecDepth 100000
namespace Go.Sx
open Go.Proofs
theorem ext_list (s : ByteArray) (i j : Nat) : (s.extract i j).data.toList = (s.data.toList.drop i).take (j - i) := by
  rw [ByteArray.data_extract, Array.toList_extract, List.extract_eq_take_drop]
theorem ext_size (s : ByteArray) (i j : Nat) : (s.extract i j).size = min j s.size - i := by simp
theorem beq_dec (a b : List UInt8) : (a == b) = decide (a = b) := by
  by_cases h : a = b <;> simp [h]
theorem val16_lt {l : List UInt8} (hl : l.length ≤ 8) (hd : ∀ i, i < l.length → isHex (l.getD i 0) = true) : valB 16 l < 4294967296 := by
  have h1 := valB16_small l 0 (fun c hc => by
    obtain ⟨i, hi, rfl⟩ := List.getElem_of_mem hc
    have := hd i hi
    simp only [List.getD, List.getElem?_eq_getElem hi, Option.getD_some] at this
    exact (dv_hex _ this).2.2)
  have h2 : 16 ^ l.length ≤ 16 ^ 8 := Nat.pow_le_pow_right (by omega) (by omega)
  have h3 : (16:Nat) ^ 8 = 4294967296 := rfl
  unfold valB
  omega
theorem getD_take {l : List UInt8} {n i : Nat} (hi : i < n) : (l.take n).getD i 0 = l.getD i 0 := by
  rw [List.getD_eq_getElem?_getD, List.getElem?_take, if_pos hi, ← List.getD_eq_getElem?_getD]
def hexesL : List UInt8 := [48, 49, 50, 51, 52, 53, 54, 55, 56, 57, 97, 98, 99, 100, 101, 102]
theorem hexes_is (c : UInt8) : hexesL.contains c = isHex c := all_bytes (fun c => hexesL.contains c) isHex (by decide +kernel) c
/-- The number that a text begins with: how many bytes, and what they say; no bytes: there is none. -/
def numL (l : List UInt8) : Nat × Nat :=
  if l.take 2 = [48, 120] then
    (if 8 < rowN (l.drop 2) hexesL ∨ rowN (l.drop 2) hexesL = 0 then (0, 0) else (2 + rowN (l.drop 2) hexesL, valB 16 ((l.drop 2).take (rowN (l.drop 2) hexesL))))
  else
    (if (1 < rowN l digitsL ∧ l.getD 0 0 = 48) ∨ rowN l digitsL = 0 ∨ 4294967296 ≤ valB 10 (l.take (rowN l digitsL)) then (0, 0) else (rowN l digitsL, valB 10 (l.take (rowN l digitsL))))
theorem rowN_get {s set : List UInt8} {i : Nat} (hi : i < rowN s set) : set.contains (s.getD i 0) = true := by
  have hle := rowN_le s set
  exact (rowN_step s set i (by omega) (by omega)).1 hi
end Go.Sx

set_option linter.unusedVariables false
set_option maxRecDepth 100000
namespace Go.Sx
open Go.Proofs
/-- A token. -/
structure Tok where
  kind : Nat
  text : ByteArray
  num : Nat
  at_ : Nat
def enc (t : Tok) : List Value := [.int .i64 t.kind, .string t.text, .int .u32 t.num, .int .i64 t.at_]
def blanksL : List UInt8 := [9, 13, 32]
def gluedL : List UInt8 := lettersL ++ digitsL
def signsL : List UInt8 := [58, 44, 40, 41, 43, 45, 42, 61]
inductive Step where
  | stop
  | wrong (at_ : Nat)
  | tok (t : Tok) (next : Nat)
/-- What stands at a place: the token behind the blanks. -/
def lexAt (s : ByteArray) (a : Nat) : Step :=
  if a = s.size then .stop
  else if s.data.toList.getD a 0 = 59 then .stop
  else if isLet (s.data.toList.getD a 0) = true then
    if 32 < rowN (s.data.toList.drop a) gluedL then .wrong a else .tok ⟨1, s.extract a (a + rowN (s.data.toList.drop a) gluedL), 0, a⟩ (a + rowN (s.data.toList.drop a) gluedL)
  else if isDig (s.data.toList.getD a 0) = true then
    if (numL (s.data.toList.drop a)).1 = 0 ∨ 0 < rowN (s.data.toList.drop (a + (numL (s.data.toList.drop a)).1)) gluedL then .wrong a
    else .tok ⟨2, s.extract a (a + (numL (s.data.toList.drop a)).1), (numL (s.data.toList.drop a)).2, a⟩ (a + (numL (s.data.toList.drop a)).1)
  else if s.data.toList.getD a 0 = 39 then
    if s.size < a + 3 ∨ (s.data.toList.getD (a + 1) 0).toNat < 32 ∨ 126 < (s.data.toList.getD (a + 1) 0).toNat ∨ s.data.toList.getD (a + 1) 0 = 39 ∨ s.data.toList.getD (a + 2) 0 ≠ 39 then .wrong a
    else .tok ⟨2, s.extract a (a + 3), (s.data.toList.getD (a + 1) 0).toNat, a⟩ (a + 3)
  else if signsL.contains (s.data.toList.getD a 0) = true then .tok ⟨3, s.extract a (a + 1), 0, a⟩ (a + 1)
  else .wrong a
def lexStep (s : ByteArray) (k : Nat) : Step := lexAt s (k + rowN (s.data.toList.drop k) blanksL)
def lexF (s : ByteArray) : Nat → Nat → List Tok → List Tok × Nat × Nat
  | 0, _, acc => (acc, 0, 0)
  | f + 1, k, acc =>
    match lexStep s k with
    | .stop => (acc, 0, 0)
    | .wrong a => ([], a, 20)
    | .tok t k' => lexF s f k' (acc ++ [t])
/-- A text's tokens, or the place of the first wrong byte. -/
def lexS (s : ByteArray) : List Tok × Nat × Nat := lexF s (s.size + 1) 0 []
theorem numL_le (l : List UInt8) : (numL l).1 ≤ l.length ∧ (numL l).2 < 4294967296 := by
  unfold numL
  split
  · rename_i h
    have h2 := congrArg List.length h
    rw [List.length_take] at h2
    simp only [List.length_cons, List.length_nil] at h2
    have h3 := rowN_le (l.drop 2) hexesL
    rw [List.length_drop] at h3
    split
    · simp
    · rename_i h4
      refine ⟨by simp only; omega, ?_⟩
      refine val16_lt (by rw [List.length_take]; omega) (fun i hi => ?_)
      rw [List.length_take] at hi
      rw [getD_take (by omega), ← hexes_is]
      exact rowN_get (by omega)
  · have h3 := rowN_le l digitsL
    split
    · simp
    · rename_i h4
      exact ⟨h3, by simp only; omega⟩
theorem lexF_tok {s : ByteArray} {f k k' : Nat} {acc : List Tok} {t : Tok} (h : lexStep s k = .tok t k') : lexF s (f + 1) k acc = lexF s f k' (acc ++ [t]) := by
  show (match lexStep s k with
    | .stop => (acc, 0, 0)
    | .wrong a => ([], a, 20)
    | .tok t k' => lexF s f k' (acc ++ [t])) = _
  rw [h]
theorem lexF_stop {s : ByteArray} {f k : Nat} {acc : List Tok} (h : lexStep s k = .stop) : lexF s (f + 1) k acc = (acc, 0, 0) := by
  show (match lexStep s k with
    | .stop => (acc, 0, 0)
    | .wrong a => ([], a, 20)
    | .tok t k' => lexF s f k' (acc ++ [t])) = _
  rw [h]
theorem lexF_wrong {s : ByteArray} {f k a : Nat} {acc : List Tok} (h : lexStep s k = .wrong a) : lexF s (f + 1) k acc = ([], a, 20) := by
  show (match lexStep s k with
    | .stop => (acc, 0, 0)
    | .wrong a => ([], a, 20)
    | .tok t k' => lexF s f k' (acc ++ [t])) = _
  rw [h]
/-- Where a token stands, and how far it reaches. -/
theorem lexAt_tok {s : ByteArray} {a k' : Nat} {t : Tok} (ha : a ≤ s.size) (h : lexAt s a = .tok t k') : a < k' ∧ k' ≤ s.size ∧ t.at_ = a ∧ t.text = s.extract a k' := by
  have hsz : s.data.toList.length = s.size := by simp
  unfold lexAt at h
  split at h
  · cases h
  split at h
  · cases h
  have hlen : (s.data.toList.drop a).length = s.size - a := by rw [List.length_drop, hsz]
  split at h
  · rename_i h1 h2 h3
    split at h
    · cases h
    · cases h
      have h5 := rowN_le (s.data.toList.drop a) gluedL
      have h6 := (rowN_pos (s := s.data.toList.drop a) (set := gluedL) (by omega)).2 (by
        rw [show (s.data.toList.drop a).getD 0 0 = s.data.toList.getD a 0 from by simp [List.getD]]
        show (lettersL ++ digitsL).contains _ = true
        rw [glued_is, h3]; rfl)
      exact ⟨by omega, by omega, rfl, rfl⟩
  split at h
  · split at h
    · cases h
    · cases h
      have h5 := (numL_le (s.data.toList.drop a)).1
      exact ⟨by omega, by omega, rfl, rfl⟩
  split at h
  · split at h
    · cases h
    · cases h
      exact ⟨by omega, by omega, rfl, rfl⟩
  split at h
  · cases h
    exact ⟨by omega, by omega, rfl, rfl⟩
  · cases h
end Go.Sx

set_option linter.unusedVariables false
set_option maxRecDepth 100000
namespace Go.Sx
open Go.Proofs
inductive LexD where
  | stop
  | wrong
  | tok (kind len num : Nat)
/-- What stands at the head of a text. -/
def lexD (D : List UInt8) : LexD :=
  if D = [] then .stop
  else if D.getD 0 0 = 59 then .stop
  else if isLet (D.getD 0 0) = true then
    if 32 < rowN D gluedL then .wrong else .tok 1 (rowN D gluedL) 0
  else if isDig (D.getD 0 0) = true then
    if (numL D).1 = 0 ∨ 0 < rowN (D.drop (numL D).1) gluedL then .wrong else .tok 2 (numL D).1 (numL D).2
  else if D.getD 0 0 = 39 then
    if D.length < 3 ∨ (D.getD 1 0).toNat < 32 ∨ 126 < (D.getD 1 0).toNat ∨ D.getD 1 0 = 39 ∨ D.getD 2 0 ≠ 39 then .wrong
    else .tok 2 3 (D.getD 1 0).toNat
  else if signsL.contains (D.getD 0 0) = true then .tok 3 1 0
  else .wrong
def mkStep (s : ByteArray) (a : Nat) : LexD → Step
  | .stop => .stop
  | .wrong => .wrong a
  | .tok k n m => .tok ⟨k, s.extract a (a + n), m, a⟩ (a + n)
theorem getD_drop' (l : List UInt8) (a j : Nat) : (l.drop a).getD j 0 = l.getD (a + j) 0 := by
  simp [List.getD_eq_getElem?_getD, List.getElem?_drop]
theorem lexAt_lexD (s : ByteArray) (a : Nat) (ha : a ≤ s.size) : lexAt s a = mkStep s a (lexD (s.data.toList.drop a)) := by
  unfold lexAt lexD
  have hsz : s.data.toList.length = s.size := by simp
  simp only [getD_drop', Nat.add_zero, List.drop_drop, List.length_drop, hsz]
  by_cases h1 : a = s.size
  · rw [if_pos h1, if_pos (List.drop_eq_nil_of_le (by omega))]; rfl
  have h1' : ¬ s.data.toList.drop a = [] := fun hh => h1 (by have := List.drop_eq_nil_iff.1 hh; omega)
  rw [if_neg h1, if_neg h1']
  by_cases h2 : s.data.toList.getD a 0 = 59
  · rw [if_pos h2, if_pos h2]; rfl
  rw [if_neg h2, if_neg h2]
  by_cases h3 : isLet (s.data.toList.getD a 0) = true
  · rw [if_pos h3, if_pos h3]
    split <;> rfl
  rw [if_neg h3, if_neg h3]
  by_cases h4 : isDig (s.data.toList.getD a 0) = true
  · rw [if_pos h4, if_pos h4]
    split <;> rfl
  rw [if_neg h4, if_neg h4]
  by_cases h5 : s.data.toList.getD a 0 = 39
  · rw [if_pos h5, if_pos h5]
    by_cases h6 : s.size < a + 3
    · rw [if_pos (.inl h6), if_pos (.inl (by omega))]; rfl
    · by_cases h7 : (s.data.toList.getD (a + 1) 0).toNat < 32 ∨ 126 < (s.data.toList.getD (a + 1) 0).toNat ∨ s.data.toList.getD (a + 1) 0 = 39 ∨ s.data.toList.getD (a + 2) 0 ≠ 39
      · rw [if_pos (.inr h7), if_pos (.inr h7)]; rfl
      · rw [if_neg (by intro hh; rcases hh with hh | hh; exact h6 hh; exact h7 hh), if_neg (by intro hh; rcases hh with hh | hh; omega; exact h7 hh)]; rfl
  rw [if_neg h5, if_neg h5]
  split <;> rfl
theorem takeWhile_all {p : UInt8 → Bool} : ∀ (l : List UInt8) {c : UInt8}, c ∈ l.takeWhile p → p c = true
  | [], c, h => by simp at h
  | d :: l, c, h => by
    rw [List.takeWhile_cons] at h
    cases hd : p d with
    | false => rw [hd] at h; simp at h
    | true =>
      rw [hd] at h
      simp only [if_true, List.mem_cons] at h
      rcases h with rfl | h
      · exact hd
      · exact takeWhile_all l h
theorem rowN_take_append {set D E : List UInt8} (hE : rowN E set = 0) : rowN (D.take (rowN D set) ++ E) set = rowN D set := by
  unfold rowN at hE ⊢
  have h1 : E.takeWhile (fun c => set.contains c) = [] := List.eq_nil_of_length_eq_zero hE
  have h2 : D.take (D.takeWhile fun c => set.contains c).length = D.takeWhile fun c => set.contains c := (List.prefix_iff_eq_take.1 (List.takeWhile_prefix _)).symm
  rw [h2, List.takeWhile_append_of_pos, h1, List.append_nil]
  exact fun c hc => takeWhile_all D hc
theorem rowN_zero {set D : List UInt8} : rowN D set = 0 ↔ ∀ c r, D = c :: r → set.contains c = false := by
  unfold rowN
  cases D with
  | nil => simp
  | cons c r =>
    simp only [List.takeWhile_cons, List.cons.injEq, and_imp]
    cases h : set.contains c with
    | false => simp only [Bool.false_eq_true, if_false, List.length_nil, true_iff]; rintro _ _ rfl rfl; exact h
    | true => simp only [if_true, List.length_cons, Nat.add_one_ne_zero, false_iff]; intro hh; have := hh c r rfl rfl; rw [h] at this; cases this
theorem digits_glued (c : UInt8) (h : gluedL.contains c = false) : digitsL.contains c = false := by
  have := all_bytes (fun c => gluedL.contains c || !digitsL.contains c) (fun _ => true) (by decide +kernel) c
  simp only [h, Bool.false_or, Bool.not_eq_true'] at this
  exact this
theorem hexes_glued (c : UInt8) (h : gluedL.contains c = false) : hexesL.contains c = false := by
  have := all_bytes (fun c => gluedL.contains c || !hexesL.contains c) (fun _ => true) (by decide +kernel) c
  simp only [h, Bool.false_or, Bool.not_eq_true'] at this
  exact this
theorem rowN_digits0 {E : List UInt8} (h : rowN E gluedL = 0) : rowN E digitsL = 0 := rowN_zero.2 fun c r he => digits_glued c (rowN_zero.1 h c r he)
theorem rowN_hexes0 {E : List UInt8} (h : rowN E gluedL = 0) : rowN E hexesL = 0 := rowN_zero.2 fun c r he => hexes_glued c (rowN_zero.1 h c r he)
/-- A number is read again where something else follows. -/
theorem numL_local {D E : List UInt8} (h0 : (numL D).1 ≠ 0) (hE : rowN E gluedL = 0) : numL (D.take (numL D).1 ++ E) = numL D := by
  by_cases h1 : D.take 2 = [48, 120]
  · have hD : numL D = if 8 < rowN (D.drop 2) hexesL ∨ rowN (D.drop 2) hexesL = 0 then (0, 0) else (2 + rowN (D.drop 2) hexesL, valB 16 ((D.drop 2).take (rowN (D.drop 2) hexesL))) := by
      unfold numL; rw [if_pos h1]
    have hlen : 2 ≤ D.length := by
      have := congrArg List.length h1
      rw [List.length_take] at this
      simp at this; omega
    by_cases h2 : 8 < rowN (D.drop 2) hexesL ∨ rowN (D.drop 2) hexesL = 0
    · rw [if_pos h2] at hD
      rw [hD] at h0
      exact (h0 rfl).elim
    · rw [if_neg h2] at hD
      rw [hD]
      have hr := rowN_le (D.drop 2) hexesL
      have hloc := rowN_take_append (set := hexesL) (D := D.drop 2) (rowN_hexes0 hE)
      generalize rowN (D.drop 2) hexesL = r at *
      simp only
      have e1 : D.take (2 + r) = [48, 120] ++ (D.drop 2).take r := by
        rw [← h1, List.take_add]
      rw [e1, List.append_assoc]
      unfold numL
      rw [if_pos (by rfl)]
      have e2 : ([48, 120] ++ ((D.drop 2).take r ++ E)).drop 2 = (D.drop 2).take r ++ E := rfl
      rw [e2, hloc, if_neg h2]
      have e3 : ((D.drop 2).take r ++ E).take r = (D.drop 2).take r := by
        rw [List.take_append_of_le_length (by rw [List.length_take]; omega), List.take_take, Nat.min_self]
      rw [e3]
  · have hD : numL D = if (1 < rowN D digitsL ∧ D.getD 0 0 = 48) ∨ rowN D digitsL = 0 ∨ 4294967296 ≤ valB 10 (D.take (rowN D digitsL)) then (0, 0) else (rowN D digitsL, valB 10 (D.take (rowN D digitsL))) := by
      unfold numL; rw [if_neg h1]
    by_cases h2 : (1 < rowN D digitsL ∧ D.getD 0 0 = 48) ∨ rowN D digitsL = 0 ∨ 4294967296 ≤ valB 10 (D.take (rowN D digitsL))
    · rw [if_pos h2] at hD
      rw [hD] at h0
      exact (h0 rfl).elim
    · rw [if_neg h2] at hD
      rw [hD]
      have hr := rowN_le D digitsL
      have hloc := rowN_take_append (set := digitsL) (D := D) (rowN_digits0 hE)
      generalize rowN D digitsL = r at *
      simp only
      have hrp : 0 < r := by
        rcases Nat.eq_zero_or_pos r with h | h
        · exact (h2 (.inr (.inl h))).elim
        · exact h
      have e3 : (D.take r ++ E).take r = D.take r := by
        rw [List.take_append_of_le_length (by rw [List.length_take]; omega), List.take_take, Nat.min_self]
      have e4 : (D.take r ++ E).getD 0 0 = D.getD 0 0 := by
        cases D with
        | nil => simp at hr; omega
        | cons d D => obtain ⟨r, rfl⟩ : ∃ r', r = r' + 1 := ⟨r - 1, by omega⟩; simp
      have e5 : ¬ (D.take r ++ E).take 2 = [48, 120] := by
        intro hh
        by_cases h3 : 2 ≤ r
        · rw [List.take_append_of_le_length (by rw [List.length_take]; omega), List.take_take, Nat.min_eq_left h3] at hh
          exact h1 hh
        · have hr1 : r = 1 := by omega
          subst hr1
          cases D with
          | nil => simp at hr
          | cons d D =>
            cases E with
            | nil => simp at hh
            | cons c E =>
              simp at hh
              have := rowN_zero.1 hE c E rfl
              rw [hh.2] at this
              revert this; decide +kernel
      unfold numL
      rw [if_neg e5, hloc, e3, e4, if_neg h2]
/-- A token is read again where something else follows: what is glued to it alone matters. -/
theorem lexD_local {D E : List UInt8} {k n m : Nat} (h : lexD D = .tok k n m) (hE : rowN E gluedL = 0 ∨ rowN (D.drop n) gluedL ≠ 0) : lexD (D.take n ++ E) = .tok k n m ∧ 0 < n ∧ n ≤ D.length := by
  cases D with
  | nil => simp [lexD] at h
  | cons d D =>
    unfold lexD at h
    rw [if_neg (by simp)] at h
    rw [List.getD_cons_zero] at h
    have key : 0 < n → lexD ((d :: D).take n ++ E) = (if d = 59 then .stop
      else if isLet d = true then
        if 32 < rowN ((d :: D).take n ++ E) gluedL then .wrong else .tok 1 (rowN ((d :: D).take n ++ E) gluedL) 0
      else if isDig d = true then
        if (numL ((d :: D).take n ++ E)).1 = 0 ∨ 0 < rowN (((d :: D).take n ++ E).drop (numL ((d :: D).take n ++ E)).1) gluedL then .wrong else .tok 2 (numL ((d :: D).take n ++ E)).1 (numL ((d :: D).take n ++ E)).2
      else if d = 39 then
        if ((d :: D).take n ++ E).length < 3 ∨ (((d :: D).take n ++ E).getD 1 0).toNat < 32 ∨ 126 < (((d :: D).take n ++ E).getD 1 0).toNat ∨ ((d :: D).take n ++ E).getD 1 0 = 39 ∨ ((d :: D).take n ++ E).getD 2 0 ≠ 39 then .wrong
        else .tok 2 3 (((d :: D).take n ++ E).getD 1 0).toNat
      else if signsL.contains d = true then .tok 3 1 0
      else .wrong) := by
      intro hn
      have e0 : ((d :: D).take n ++ E).getD 0 0 = d := by
        obtain ⟨n, rfl⟩ : ∃ n', n = n' + 1 := ⟨n - 1, by omega⟩
        simp
      conv => lhs; unfold lexD
      rw [if_neg (by obtain ⟨n, rfl⟩ : ∃ n', n = n' + 1 := ⟨n - 1, by omega⟩; simp), e0]
    by_cases h2 : d = 59
    · rw [if_pos h2] at h; cases h
    rw [if_neg h2] at h
    by_cases h3 : isLet d = true
    · rw [if_pos h3] at h
      have hpos := rowN_step (d :: D) gluedL 0 (by omega) (by simp)
      rw [List.getD_cons_zero, show gluedL = lettersL ++ digitsL from rfl, glued_is, h3] at hpos
      have hpos := hpos.2 rfl
      rw [← show gluedL = lettersL ++ digitsL from rfl] at hpos
      by_cases h4 : 32 < rowN (d :: D) gluedL
      · rw [if_pos h4] at h; cases h
      rw [if_neg h4] at h
      injection h with a1 a2 a3
      subst a1 a2 a3
      have hr := rowN_le (d :: D) gluedL
      have hE0 : rowN E gluedL = 0 := by
        rcases hE with hE | hE
        · exact hE
        · refine (hE ?_).elim
          refine rowN_zero.2 fun c r he => ?_
          have := takeWhile_step (p := fun c => gluedL.contains c) (d :: D) (rowN (d :: D) gluedL) (Nat.le_refl _) (by
            have := congrArg List.length he
            rw [List.length_drop] at this; simp at this ⊢; omega)
          have h5 : ¬ rowN (d :: D) gluedL < ((d :: D).takeWhile fun c => gluedL.contains c).length := Nat.lt_irrefl _
          rw [this] at h5
          have h6 : (d :: D).getD (rowN (d :: D) gluedL) 0 = c := by
            have := congrArg (fun l => l.getD 0 0) he
            simp only [getD_drop', Nat.add_zero, List.getD_cons_zero] at this
            exact this
          rw [h6] at h5
          simpa using h5
      refine ⟨?_, hpos, hr⟩
      rw [key hpos, if_neg h2, if_pos h3, rowN_take_append hE0, if_neg h4]
    rw [if_neg h3] at h
    by_cases h4 : isDig d = true
    · rw [if_pos h4] at h
      by_cases h5 : (numL (d :: D)).1 = 0 ∨ 0 < rowN ((d :: D).drop (numL (d :: D)).1) gluedL
      · rw [if_pos h5] at h; cases h
      rw [if_neg h5] at h
      injection h with a1 a2 a3
      subst a1 a2 a3
      have hE0 : rowN E gluedL = 0 := by
        rcases hE with hE | hE
        · exact hE
        · omega
      have hl := (numL_le (d :: D)).1
      have hz : (numL (d :: D)).1 ≠ 0 := fun hh => h5 (.inl hh)
      have hloc := numL_local hz hE0
      refine ⟨?_, by omega, hl⟩
      rw [key (by omega), if_neg h2, if_neg h3, if_pos h4, hloc]
      rw [List.drop_append_of_le_length (by rw [List.length_take]; omega), List.drop_take, Nat.sub_self, List.take_zero, List.nil_append, if_neg (by omega)]
    rw [if_neg h4] at h
    by_cases h5 : d = 39
    · rw [if_pos h5] at h
      by_cases h6 : (d :: D).length < 3 ∨ ((d :: D).getD 1 0).toNat < 32 ∨ 126 < ((d :: D).getD 1 0).toNat ∨ (d :: D).getD 1 0 = 39 ∨ (d :: D).getD 2 0 ≠ 39
      · rw [if_pos h6] at h; cases h
      rw [if_neg h6] at h
      injection h with a1 a2 a3
      subst a1 a2 a3
      have hlen : 3 ≤ (d :: D).length := by omega
      refine ⟨?_, by omega, hlen⟩
      match D, hlen with
      | d1 :: d2 :: D, _ =>
        rw [key (by omega), if_neg h2, if_neg h3, if_neg h4, if_pos h5]
        simp only [List.take_succ_cons, List.take_zero, List.cons_append, List.nil_append, List.getD_cons_succ, List.getD_cons_zero, List.length_cons] at h6 ⊢
        rw [if_neg (by intro hh; apply h6; rcases hh with hh | hh; omega; exact .inr hh)]
    rw [if_neg h5] at h
    by_cases h6 : signsL.contains d = true
    · rw [if_pos h6] at h
      injection h with a1 a2 a3
      subst a1 a2 a3
      refine ⟨?_, by omega, by simp⟩
      rw [key (by omega), if_neg h2, if_neg h3, if_neg h4, if_neg h5, if_pos h6]
    · rw [if_neg h6] at h; cases h
end Go.Sx

set_option linter.unusedVariables false
set_option maxRecDepth 100000
namespace Go.Sx
open Go.Proofs
abbrev tokCs : List Comp := [(false, [.slice 0]), (false, [.int .i64]), (false, [.int .i64]), (false, [.slice 0]), (false, [.pointer 0]), (false, [.int .i64]), (false, [.int .i64])]
theorem drop_ext {s : ByteArray} {a : Nat} : (s.extract a (Int.toNat (s.size : Int))).data.toList = s.data.toList.drop a := by
  rw [ext_list, show Int.toNat (s.size : Int) = s.size by omega]
  exact List.take_of_length_le (by simp)
theorem getD_drop (l : List UInt8) (a : Nat) : (l.drop a).getD 0 0 = l.getD a 0 := by simp [List.getD]
theorem lexStep_tok {s : ByteArray} {k k' : Nat} {t : Tok} (hk : k ≤ s.size) (h : lexStep s k = .tok t k') : k < k' ∧ k' ≤ s.size := by
  have hsz : s.data.toList.length = s.size := by simp
  have h1 := rowN_le (s.data.toList.drop k) blanksL
  rw [List.length_drop] at h1
  have := lexAt_tok (a := k + rowN (s.data.toList.drop k) blanksL) (by omega) h
  omega
end Go.Sx

set_option linter.unusedVariables false
set_option maxRecDepth 100000
namespace Go.Sx
open Go.Proofs
abbrev knS1 : ByteArray := ⟨#[97, 58, 32, 106, 109, 112, 32, 98, 43, 48, 120, 49, 102, 32, 59, 32, 120]⟩
abbrev knS2 : ByteArray := ⟨#[97, 32, 36]⟩
theorem lex1 : lexS knS1 = ([⟨1, ⟨#[97]⟩, 0, 0⟩, ⟨3, ⟨#[58]⟩, 0, 1⟩, ⟨1, ⟨#[106, 109, 112]⟩, 0, 3⟩, ⟨1, ⟨#[98]⟩, 0, 7⟩, ⟨3, ⟨#[43]⟩, 0, 8⟩, ⟨2, ⟨#[48, 120, 49, 102]⟩, 31, 9⟩], 0, 0) := by kernel_rfl
theorem lex2 : lexS knS2 = ([], 2, 20) := by kernel_rfl
end Go.Sx

set_option linter.unusedVariables false
set_option maxRecDepth 100000
namespace Go.Sx
open Go.Proofs
/-- A struct type's fields. -/
def flds (P : Program) (t : TypeId) : Array Field :=
  match P.underlying t with
  | some (.struct fs) => fs
  | _ => #[]
theorem bytes_beq (t : ByteArray) : (t == t) = true := by
  cases t with | mk d => show (d == d) = true; simp
end Go.Sx

set_option linter.unusedVariables false
set_option maxRecDepth 100000
namespace Go.Sx
open Go.Proofs
/-- A hexadecimal digit's worth, or -1. -/
def hv (c : UInt8) : Int := if isHex c = true then (dv c : Int) else -1
end Go.Sx

set_option linter.unusedVariables false
set_option maxRecDepth 100000
namespace Go.Sx
open Go.Proofs
/-- The number at a text's head, digits or a sign in quotes: what it says, how long it is (0: there is none). -/
def numR (D : List UInt8) : Nat × Nat :=
  if D.getD 0 0 = 39 then
    (if D.length < 3 ∨ (D.getD 1 0).toNat < 32 ∨ 126 < (D.getD 1 0).toNat ∨ D.getD 1 0 = 39 ∨ D.getD 2 0 ≠ 39 then (0, 0) else ((D.getD 1 0).toNat, 3))
  else if (numL D).1 = 0 ∨ 0 < rowN (D.drop (numL D).1) gluedL then (0, 0) else ((numL D).2, (numL D).1)
theorem lexD_num {D : List UInt8} (h : isDig (D.getD 0 0) = true ∨ D.getD 0 0 = 39) (h0 : D ≠ []) : lexD D = if (numR D).2 = 0 then .wrong else .tok 2 (numR D).2 (numR D).1 := by
  have hc : D.getD 0 0 ≠ 59 ∧ isLet (D.getD 0 0) = false := by
    have := all_bytes (fun c => !(isDig c || decide (c = 39)) || (!decide (c = 59) && !isLet c)) (fun _ => true) (by decide +kernel) (D.getD 0 0)
    have h' : (isDig (D.getD 0 0) || decide (D.getD 0 0 = 39)) = true := by
      rcases h with h | h
      · rw [h]; rfl
      · rw [h]; rfl
    simp only [h', Bool.not_true, Bool.false_or, Bool.and_eq_true, Bool.not_eq_true', decide_eq_false_iff_not] at this
    exact this
  unfold lexD numR
  rw [if_neg h0, if_neg hc.1, if_neg (by rw [hc.2]; simp)]
  by_cases h1 : isDig (D.getD 0 0) = true
  · have h2 : D.getD 0 0 ≠ 39 := fun hh => by rw [hh] at h1; revert h1; decide
    rw [if_pos h1, if_neg h2]
    by_cases h3 : (numL D).1 = 0 ∨ 0 < rowN (D.drop (numL D).1) gluedL
    · rw [if_pos h3, if_pos h3]; rfl
    · rw [if_neg h3, if_neg h3, if_neg (fun hh => h3 (.inl hh))]
  · have h2 : D.getD 0 0 = 39 := h.resolve_left h1
    rw [if_neg h1, if_pos h2, if_pos h2]
    split <;> rfl
theorem foldl_pow (b : Nat) : ∀ (l : List UInt8) (n : Nat), n * b ^ l.length ≤ l.foldl (fun n c => n * b + dv c) n
  | [], n => by simp
  | c :: l, n => by
    rw [List.foldl_cons, List.length_cons, Nat.pow_succ]
    refine Nat.le_trans ?_ (foldl_pow b l _)
    rw [Nat.mul_comm (b ^ l.length) b, ← Nat.mul_assoc]
    exact Nat.mul_le_mul_right _ (Nat.le_add_right _ _)
theorem val_big {D : List UInt8} {n : Nat} (hn : 0 < n) (hl : n ≤ D.length) (hd : isDig (D.getD 0 0) = true) (h0 : D.getD 0 0 ≠ 48) : 10 ^ (n - 1) ≤ valB 10 (D.take n) := by
  cases D with
  | nil => simp at hl; omega
  | cons d D =>
    obtain ⟨n, rfl⟩ : ∃ n', n = n' + 1 := ⟨n - 1, by omega⟩
    simp only [List.getD_cons_zero, List.length_cons] at hd h0 hl
    rw [List.take_succ_cons]
    unfold valB
    rw [List.foldl_cons]
    have h1 := foldl_pow 10 (D.take n) (0 * 10 + dv d)
    rw [List.length_take, Nat.min_eq_left (by omega)] at h1
    refine Nat.le_trans ?_ h1
    have h2 := (isDig_iff d).1 hd
    have h3 : d.toNat ≠ 48 := fun hh => h0 (UInt8.toNat_inj.1 hh)
    have h4 : 1 ≤ 0 * 10 + dv d := by
      unfold cN at h2
      unfold dv
      split <;> omega
    have := Nat.mul_le_mul_right (10 ^ n) h4
    simpa using this
theorem val_small (b : Nat) (hb : 0 < b) : ∀ (l : List UInt8) (n : Nat), (∀ c ∈ l, dv c < b) → l.foldl (fun n c => n * b + dv c) n < (n + 1) * b ^ l.length
  | [], n, _ => by simp
  | c :: l, n, h => by
    rw [List.foldl_cons, List.length_cons, Nat.pow_succ]
    refine Nat.lt_of_lt_of_le (val_small b hb l _ fun d hd => h d (by simp [hd])) ?_
    rw [Nat.mul_comm (b ^ l.length) b, ← Nat.mul_assoc]
    refine Nat.mul_le_mul_right _ ?_
    have := h c (by simp)
    rw [Nat.add_mul]; omega
theorem dv_dig (c : UInt8) (h : isDig c = true) : (dv c : Int) = cN c - 48 ∧ dv c < 10 := by
  have h2 := (isDig_iff c).1 h
  unfold dv cN at *
  split <;> omega
theorem rowN_mem {set l : List UInt8} {k : Nat} (hk : k ≤ rowN l set) {c : UInt8} (hc : c ∈ l.take k) : set.contains c = true := by
  obtain ⟨i, hi, rfl⟩ := List.getElem_of_mem hc
  rw [List.length_take] at hi
  have := rowN_get (s := l) (set := set) (i := i) (by omega)
  rw [List.getD_eq_getElem?_getD, List.getElem?_eq_getElem (by omega), Option.getD_some] at this
  rw [List.getElem_take]
  exact this
theorem val10_lt {l : List UInt8} {k : Nat} (hk : k ≤ rowN l digitsL) : valB 10 (l.take k) < 10 ^ k := by
  have hle := rowN_le l digitsL
  have := val_small 10 (by omega) (l.take k) 0 (fun c hc => (dv_dig c (by rw [← digits_is]; exact rowN_mem hk hc)).2)
  rw [List.length_take, Nat.min_eq_left (by omega)] at this
  unfold valB
  omega
theorem val16_lt' {l : List UInt8} {k : Nat} (hk : k ≤ rowN l hexesL) : valB 16 (l.take k) < 16 ^ k := by
  have hle := rowN_le l hexesL
  have := val_small 16 (by omega) (l.take k) 0 (fun c hc => (dv_hex c (by rw [← hexes_is]; exact rowN_mem hk hc)).2.2)
  rw [List.length_take, Nat.min_eq_left (by omega)] at this
  unfold valB
  omega
end Go.Sx

set_option linter.unusedVariables false
set_option maxRecDepth 100000
namespace Go.Sx
open Go.Proofs
def numV (D : List UInt8) (a : Nat) : Value := .tuple #[.int .u32 (numR D).1, .int .i64 (if (numR D).2 = 0 then (0 : Nat) else a + (numR D).2 : Nat)]
theorem rowN_drop_pos {s : ByteArray} {i : Nat} (hi : i < s.size) : 0 < rowN (s.data.toList.drop i) gluedL ↔ (isLet (s.data.toList.getD i 0) || isDig (s.data.toList.getD i 0)) = true := by
  have hsz : s.data.toList.length = s.size := by simp
  rw [← glued_is]
  have := rowN_step (s.data.toList.drop i) gluedL 0 (by omega) (by rw [List.length_drop]; omega)
  rw [getD_drop', Nat.add_zero] at this
  exact this
theorem cN_eq (c d : UInt8) {n : Int} (hn : cN d = n) : cN c = n ↔ c = d := by
  subst hn
  unfold cN
  constructor
  · intro h
    exact UInt8.toNat_inj.1 (by omega)
  · intro h
    rw [h]
theorem numR_dec {D : List UInt8} (h39 : D.getD 0 0 ≠ 39) (hx : ¬ D.take 2 = [48, 120]) (h : (1 < rowN D digitsL ∧ D.getD 0 0 = 48) ∨ rowN D digitsL = 0 ∨ 4294967296 ≤ valB 10 (D.take (rowN D digitsL))) : numR D = (0, 0) := by
  unfold numR
  have : numL D = (0, 0) := by unfold numL; rw [if_neg hx, if_pos h]
  rw [if_neg h39, this, if_pos (.inl rfl)]
theorem numR_dec' {D : List UInt8} (h39 : D.getD 0 0 ≠ 39) (hx : ¬ D.take 2 = [48, 120]) (h : ¬ ((1 < rowN D digitsL ∧ D.getD 0 0 = 48) ∨ rowN D digitsL = 0 ∨ 4294967296 ≤ valB 10 (D.take (rowN D digitsL)))) :
    numR D = if 0 < rowN (D.drop (rowN D digitsL)) gluedL then (0, 0) else (valB 10 (D.take (rowN D digitsL)), rowN D digitsL) := by
  unfold numR
  have : numL D = (rowN D digitsL, valB 10 (D.take (rowN D digitsL))) := by unfold numL; rw [if_neg hx, if_neg h]
  rw [if_neg h39, this]
  simp only
  by_cases h2 : 0 < rowN (D.drop (rowN D digitsL)) gluedL
  · rw [if_pos (.inr h2), if_pos h2]
  · rw [if_neg h2, if_neg (by rintro (hh | hh); exact h (.inr (.inl hh)); exact h2 hh)]
end Go.Sx

set_option linter.unusedVariables false
set_option maxRecDepth 100000
namespace Go.Sx
open Go.Proofs
/-- The tokens from a place on, to the end. -/
inductive Chain (s : ByteArray) : Nat → List Tok → Prop where
  | stop (k : Nat) : k ≤ s.size → lexD (s.data.toList.drop (k + rowN (s.data.toList.drop k) blanksL)) = .stop → Chain s k []
  | tok (k kind n m : Nat) (ts : List Tok) : k ≤ s.size → lexD (s.data.toList.drop (k + rowN (s.data.toList.drop k) blanksL)) = .tok kind n m → Chain s (k + rowN (s.data.toList.drop k) blanksL + n) ts →
      Chain s k (⟨kind, s.extract (k + rowN (s.data.toList.drop k) blanksL) (k + rowN (s.data.toList.drop k) blanksL + n), m, k + rowN (s.data.toList.drop k) blanksL⟩ :: ts)
theorem blank_le {s : ByteArray} {k : Nat} (hk : k ≤ s.size) : k + rowN (s.data.toList.drop k) blanksL ≤ s.size := by
  have h1 := rowN_le (s.data.toList.drop k) blanksL
  rw [List.length_drop] at h1
  have hsz : s.data.toList.length = s.size := by simp
  omega
theorem lexStep_lexD {s : ByteArray} {k : Nat} (hk : k ≤ s.size) : lexStep s k = mkStep s (k + rowN (s.data.toList.drop k) blanksL) (lexD (s.data.toList.drop (k + rowN (s.data.toList.drop k) blanksL))) := by
  unfold lexStep
  exact lexAt_lexD s _ (blank_le hk)
theorem lexD_pos {D : List UInt8} {k n m : Nat} (h : lexD D = .tok k n m) : 0 < n ∧ n ≤ D.length := (lexD_local (E := []) h (.inl rfl)).2
theorem lexD_nil : lexD [] = .stop := rfl
theorem lexF_chain {s : ByteArray} : ∀ (f k : Nat) (acc : List Tok), k ≤ s.size → s.size - k < f →
    (∃ ts, Chain s k ts ∧ lexF s f k acc = (acc ++ ts, 0, 0)) ∨ (∃ a, a < s.size ∧ lexF s f k acc = ([], a, 20))
  | 0, k, acc, hk, hf => by omega
  | f + 1, k, acc, hk, hf => by
    have hst := lexStep_lexD hk
    have ha := blank_le hk
    have hsz : s.data.toList.length = s.size := by simp
    cases hD : lexD (s.data.toList.drop (k + rowN (s.data.toList.drop k) blanksL)) with
    | stop =>
      rw [hD] at hst
      exact .inl ⟨[], .stop k hk hD, by rw [lexF_stop hst, List.append_nil]⟩
    | wrong =>
      rw [hD] at hst
      refine .inr ⟨_, ?_, lexF_wrong hst⟩
      rcases Nat.lt_or_ge (k + rowN (s.data.toList.drop k) blanksL) s.size with h | h
      · exact h
      · rw [List.drop_eq_nil_of_le (by omega), lexD_nil] at hD; cases hD
    | tok kind n m =>
      rw [hD] at hst
      obtain ⟨h1, h2⟩ := lexD_pos hD
      rw [List.length_drop] at h2
      rcases lexF_chain (s := s) f (k + rowN (s.data.toList.drop k) blanksL + n) (acc ++ [⟨kind, s.extract (k + rowN (s.data.toList.drop k) blanksL) (k + rowN (s.data.toList.drop k) blanksL + n), m, k + rowN (s.data.toList.drop k) blanksL⟩]) (by omega) (by omega) with ⟨ts, hc, he⟩ | ⟨a, ha', he⟩
      · refine .inl ⟨_, .tok k kind n m ts hk hD hc, ?_⟩
        rw [lexF_tok hst, he, List.append_assoc, List.singleton_append]
      · exact .inr ⟨a, ha', by rw [lexF_tok hst, he]⟩
theorem chain_lexF {s : ByteArray} {k : Nat} {ts : List Tok} (h : Chain s k ts) : ∀ (f : Nat) (acc : List Tok), s.size - k < f → lexF s f k acc = (acc ++ ts, 0, 0) := by
  induction h with
  | stop k hk hD =>
    intro f acc hf
    obtain ⟨f, rfl⟩ : ∃ f', f = f' + 1 := ⟨f - 1, by omega⟩
    have hst := lexStep_lexD hk
    rw [hD] at hst
    rw [lexF_stop hst, List.append_nil]
  | tok k kind n m ts hk hD hc ih =>
    intro f acc hf
    obtain ⟨f, rfl⟩ : ∃ f', f = f' + 1 := ⟨f - 1, by omega⟩
    have hst := lexStep_lexD hk
    rw [hD] at hst
    obtain ⟨h1, h2⟩ := lexD_pos hD
    have ha := blank_le hk
    have hsz : s.data.toList.length = s.size := by simp
    rw [List.length_drop] at h2
    rw [lexF_tok hst, ih f _ (by omega), List.append_assoc, List.singleton_append]
theorem lexS_cases (s : ByteArray) : (Chain s 0 (lexS s).1 ∧ (lexS s).2 = (0, 0)) ∨ (∃ a, a < s.size ∧ lexS s = ([], a, 20)) := by
  rcases lexF_chain (s := s) (s.size + 1) 0 [] (by omega) (by omega) with ⟨ts, hc, he⟩ | ⟨a, ha, he⟩
  · refine .inl ?_
    unfold lexS
    rw [he]
    exact ⟨hc, rfl⟩
  · exact .inr ⟨a, ha, he⟩
theorem chain_lexS {s : ByteArray} {ts : List Tok} (h : Chain s 0 ts) : lexS s = (ts, 0, 0) := by
  unfold lexS
  rw [chain_lexF h _ _ (by omega)]; rfl
theorem ba_ext {s t : ByteArray} (h : s.data.toList = t.data.toList) : s = t := by
  cases s; cases t
  simp only at h
  congr 1
  exact Array.toList_inj.1 h
theorem rowN_append_lt {set D E : List UInt8} (h : rowN D set < D.length) : rowN (D ++ E) set = rowN D set := by
  unfold rowN at h ⊢
  induction D with
  | nil => simp at h
  | cons d D ih =>
    simp only [List.cons_append, List.takeWhile_cons] at h ⊢
    cases hd : set.contains d with
    | false => rfl
    | true =>
      rw [hd] at h
      simp only [if_true, List.length_cons] at h ⊢
      rw [ih (by omega)]
theorem rowN_append_all {set D E : List UInt8} (h : rowN D set = D.length) : rowN (D ++ E) set = D.length + rowN E set := by
  unfold rowN at h ⊢
  induction D with
  | nil => simp
  | cons d D ih =>
    simp only [List.cons_append, List.takeWhile_cons] at h ⊢
    cases hd : set.contains d with
    | false => rw [hd] at h; simp at h
    | true =>
      rw [hd] at h
      simp only [if_true, List.length_cons] at h ⊢
      rw [ih (by omega)]
      omega
theorem lexD_stop {D : List UInt8} (h : lexD D = .stop) : D = [] ∨ D.getD 0 0 = 59 := by
  unfold lexD at h
  by_cases h1 : D = []
  · exact .inl h1
  rw [if_neg h1] at h
  by_cases h2 : D.getD 0 0 = 59
  · exact .inr h2
  rw [if_neg h2] at h
  repeat' (split at h)
  all_goals cases h
theorem rowN_glued_append {D E : List UInt8} (hE : rowN E gluedL = 0) : rowN (D ++ E) gluedL = 0 ∨ rowN D gluedL ≠ 0 := by
  cases D with
  | nil => exact .inl (by simpa using hE)
  | cons d D =>
    by_cases h : gluedL.contains d = true
    · right
      unfold rowN
      rw [List.takeWhile_cons, h]
      simp
    · left
      refine rowN_zero.2 fun c r he => ?_
      injection he with a1 a2
      rw [← a1]
      simpa using h
/-- A remark behind a text's end hides all. -/
theorem chain_append {s s' : ByteArray} {u : List UInt8} (hs' : s'.data.toList = s.data.toList ++ (32 :: 59 :: u)) {k : Nat} {ts : List Tok} (h : Chain s k ts) : Chain s' k ts := by
  have hsz : s.data.toList.length = s.size := by simp
  have hsz' : s'.size = s.size + (u.length + 2) := by
    have := congrArg List.length hs'
    simp at this; omega
  induction h with
  | stop k hk hD =>
    refine .stop k (by omega) ?_
    have e0 : s'.data.toList.drop k = s.data.toList.drop k ++ (32 :: 59 :: u) := by rw [hs', List.drop_append_of_le_length (by omega)]
    rw [e0]
    have hr := rowN_le (s.data.toList.drop k) blanksL
    rcases Nat.lt_or_ge (rowN (s.data.toList.drop k) blanksL) (s.data.toList.drop k).length with h1 | h1
    · rw [rowN_append_lt h1]
      rw [List.length_drop] at h1
      rw [hs', List.drop_append_of_le_length (by omega)]
      rcases lexD_stop hD with h2 | h2
      · have := List.drop_eq_nil_iff.1 h2; omega
      · cases h3 : s.data.toList.drop (k + rowN (s.data.toList.drop k) blanksL) with
        | nil => have := List.drop_eq_nil_iff.1 h3; omega
        | cons d D =>
          rw [h3] at h2
          simp only [List.getD_cons_zero] at h2
          subst h2
          rfl
    · rw [rowN_append_all (by omega)]
      rw [show rowN ((32 : UInt8) :: 59 :: u) blanksL = 1 from rfl]
      rw [List.length_drop] at h1 ⊢
      rw [hs', show k + (s.data.toList.length - k + 1) = s.data.toList.length + 1 by omega, List.drop_append]
      rw [List.drop_eq_nil_of_le (by omega), show s.data.toList.length + 1 - s.data.toList.length = 1 by omega]
      rfl
  | tok k kind n m ts hk hD hc ih =>
    have hr := rowN_le (s.data.toList.drop k) blanksL
    obtain ⟨h1, h2⟩ := lexD_pos hD
    have hlt : rowN (s.data.toList.drop k) blanksL < (s.data.toList.drop k).length := by
      rw [List.length_drop] at h2 ⊢; omega
    have e1 : rowN (s'.data.toList.drop k) blanksL = rowN (s.data.toList.drop k) blanksL := by
      rw [hs', List.drop_append_of_le_length (by omega), rowN_append_lt hlt]
    rw [List.length_drop] at hlt h2
    have hD' : lexD (s'.data.toList.drop (k + rowN (s'.data.toList.drop k) blanksL)) = .tok kind n m := by
      rw [e1, hs', List.drop_append_of_le_length (by omega)]
      conv => lhs; rw [← List.take_append_drop n (s.data.toList.drop _), List.append_assoc]
      exact (lexD_local hD (rowN_glued_append rfl)).1
    have := Chain.tok (s := s') k kind n m ts (by omega) hD' (by rw [e1]; exact ih)
    rw [e1] at this
    have e2 : s'.extract (k + rowN (s.data.toList.drop k) blanksL) (k + rowN (s.data.toList.drop k) blanksL + n) = s.extract (k + rowN (s.data.toList.drop k) blanksL) (k + rowN (s.data.toList.drop k) blanksL + n) := by
      refine ba_ext ?_
      rw [ext_list, ext_list, hs', List.drop_append_of_le_length (by omega), List.take_append_of_le_length (by rw [List.length_drop]; omega)]
    rw [e2] at this
    exact this
/-- Texts with one blank behind each. -/
def joinL : List Tok → List UInt8
  | [] => []
  | t :: ts => t.text.data.toList ++ 32 :: joinL ts
/-- Alike but for the places. -/
def Alike (t u : Tok) : Prop := t.kind = u.kind ∧ t.text = u.text ∧ t.num = u.num
theorem lexD_blank {D : List UInt8} {k n m : Nat} (h : lexD D = .tok k n m) : rowN D blanksL = 0 := by
  refine rowN_zero.2 fun c r he => ?_
  subst he
  cases hb : blanksL.contains c with
  | false => rfl
  | true =>
    exfalso
    have hall := all_bytes (fun c => !blanksL.contains c || (!decide (c = 59) && !isLet c && !isDig c && !decide (c = 39) && !signsL.contains c)) (fun _ => true) (by decide +kernel) c
    simp only [hb, Bool.not_true, Bool.false_or, Bool.and_eq_true, Bool.not_eq_true', decide_eq_false_iff_not] at hall
    obtain ⟨⟨⟨⟨h1, h2⟩, h3⟩, h4⟩, h5⟩ := hall
    unfold lexD at h
    simp only [List.getD_cons_zero] at h
    rw [if_neg (by simp), if_neg h1, if_neg (by rw [h2]; simp), if_neg (by rw [h3]; simp), if_neg h4, if_neg (by rw [h5]; simp)] at h
    cases h
/-- Tokens with one blank between each two are read again. -/
theorem chain_join {s s' : ByteArray} {k : Nat} {ts : List Tok} (h : Chain s k ts) : ∀ (q : Nat) (B : List UInt8), (B = [] ∨ B = [32]) → q ≤ s'.size → s'.data.toList.drop q = B ++ joinL ts →
    ∃ us, Chain s' q us ∧ us.length = ts.length ∧ ∀ i (h1 : i < us.length) (h2 : i < ts.length), Alike us[i] ts[i] := by
  have hsz' : s'.data.toList.length = s'.size := by simp
  induction h with
  | stop k hk hD =>
    intro q B hB hq hJ
    refine ⟨[], .stop q hq ?_, rfl, fun i h1 _ => by simp at h1⟩
    have e1 : rowN (s'.data.toList.drop q) blanksL = (s'.data.toList.drop q).length := by
      rw [hJ]
      rcases hB with rfl | rfl <;> rfl
    rw [e1, List.length_drop, List.drop_eq_nil_of_le (by omega)]
    rfl
  | tok k kind n m ts hk hD hc ih =>
    intro q B hB hq hJ
    obtain ⟨h1, h2⟩ := lexD_pos hD
    generalize ha : k + rowN (s.data.toList.drop k) blanksL = a at *
    have eX : (s.extract a (a + n)).data.toList = (s.data.toList.drop a).take n := by rw [ext_list, show a + n - a = n by omega]
    have hJ' : s'.data.toList.drop q = B ++ ((s.data.toList.drop a).take n ++ 32 :: joinL ts) := by
      rw [hJ]
      show B ++ ((s.extract a (a + n)).data.toList ++ 32 :: joinL ts) = _
      rw [eX]
    have hloc := (lexD_local (E := 32 :: joinL ts) hD (.inl rfl)).1
    have hbl := lexD_blank hloc
    have e1 : rowN (s'.data.toList.drop q) blanksL = B.length := by
      rw [hJ', rowN_append_all (by rcases hB with rfl | rfl <;> rfl), hbl]; rfl
    have e2 : s'.data.toList.drop (q + B.length) = (s.data.toList.drop a).take n ++ 32 :: joinL ts := by
      rw [← List.drop_drop, hJ', List.drop_left]
    have hXl : ((s.data.toList.drop a).take n).length = n := by rw [List.length_take]; omega
    have e3 : s'.data.toList.drop (q + B.length + n) = [32] ++ joinL ts := by
      rw [← List.drop_drop, e2, List.drop_left' hXl]; rfl
    have hle : q + B.length + n ≤ s'.size := by
      have := congrArg List.length e3
      rw [List.length_drop] at this
      simp at this; omega
    obtain ⟨us, hu, hl, hs⟩ := ih (q + B.length + n) [32] (.inr rfl) hle e3
    have hD' : lexD (s'.data.toList.drop (q + rowN (s'.data.toList.drop q) blanksL)) = .tok kind n m := by rw [e1, e2]; exact hloc
    have := Chain.tok (s := s') q kind n m us hq hD' (by rw [e1]; exact hu)
    rw [e1] at this
    refine ⟨_, this, by simp [hl], ?_⟩
    intro i h3 h4
    cases i with
    | zero =>
      refine ⟨rfl, ba_ext ?_, rfl⟩
      show (s'.extract (q + B.length) (q + B.length + n)).data.toList = (s.extract a (a + n)).data.toList
      rw [eX, ext_list, e2, show q + B.length + n - (q + B.length) = n by omega, List.take_append_of_le_length (by omega), List.take_of_length_le (by omega)]
    | succ i => exact hs i (by simpa using h3) (by simpa using h4)
end Go.Sx

set_option linter.unusedVariables false
set_option maxRecDepth 100000
namespace Go.Sx
open Go.Proofs
abbrev tok2Cs : List Comp := [(false, [.slice 0]), (false, [.int .i64]), (false, [.int .i64]), (false, [.slice 0]), (false, [.int .i64])]
theorem lexF_move {s : ByteArray} {f k k' : Nat} {acc : List Tok} (h : lexStep s k = lexStep s k') : lexF s (f + 1) k acc = lexF s (f + 1) k' acc := by
  show (match lexStep s k with
    | .stop => (acc, 0, 0)
    | .wrong a => ([], a, 20)
    | .tok t k' => lexF s f k' (acc ++ [t])) = (match lexStep s k' with
    | .stop => (acc, 0, 0)
    | .wrong a => ([], a, 20)
    | .tok t k' => lexF s f k' (acc ++ [t]))
  rw [h]
theorem drop_cons {s : ByteArray} {k : Nat} (hk : k < s.size) : s.data.toList.drop k = s.data.toList.getD k 0 :: s.data.toList.drop (k + 1) := by
  have hsz : s.data.toList.length = s.size := by simp
  rw [List.drop_eq_getElem_cons (by omega)]
  congr 1
  rw [List.getD_eq_getElem?_getD, List.getElem?_eq_getElem (by omega)]; rfl
theorem lexStep_blank {s : ByteArray} {k : Nat} (hk : k < s.size) (hb : blanksL.contains (s.data.toList.getD k 0) = true) : lexStep s k = lexStep s (k + 1) := by
  unfold lexStep
  have : rowN (s.data.toList.drop k) blanksL = rowN (s.data.toList.drop (k + 1)) blanksL + 1 := by
    rw [drop_cons hk]
    unfold rowN
    rw [List.takeWhile_cons, hb]
    simp
  rw [this]
  congr 1
  omega
theorem lexStep_none {s : ByteArray} {k : Nat} (hb : k < s.size → blanksL.contains (s.data.toList.getD k 0) = false) : lexStep s k = lexAt s k := by
  have hsz : s.data.toList.length = s.size := by simp
  unfold lexStep
  have : rowN (s.data.toList.drop k) blanksL = 0 := by
    rcases Nat.lt_or_ge k s.size with hk | hk
    · rw [drop_cons hk]
      unfold rowN
      rw [List.takeWhile_cons, hb hk]
      simp
    · rw [List.drop_eq_nil_of_le (by omega)]; rfl
  rw [this, Nat.add_zero]
end Go.Sx

set_option linter.unusedVariables false
set_option maxRecDepth 100000
namespace Go.Sx
open Go.Proofs
theorem chain_len {s : ByteArray} {k : Nat} {ts : List Tok} (h : Chain s k ts) : k + ts.length ≤ s.size := by
  induction h with
  | stop k hk _ => simpa using hk
  | tok k kind n m ts hk hD hc ih =>
    have := (lexD_pos hD).1
    rw [List.length_cons]
    omega
theorem lexS_len (s : ByteArray) : (lexS s).1.length ≤ s.size := by
  rcases lexS_cases s with ⟨hc, _⟩ | ⟨a, ha, he⟩
  · have := chain_len hc; omega
  · rw [he]; simp
def badT : List ByteArray := [⟨#[39, 39, 39]⟩, ⟨#[48, 48, 55]⟩, ⟨#[48, 120]⟩, ⟨#[52, 50, 57, 52, 57, 54, 55, 50, 57, 54]⟩, ⟨#[49, 97]⟩, ⟨#[10]⟩,
  ⟨#[97, 98, 99, 100, 101, 102, 103, 104, 105, 106, 107, 108, 109, 110, 111, 112, 113, 114, 115, 116, 117, 118, 119, 120, 121, 122, 97, 98, 99, 100, 101, 102, 103]⟩]
theorem badT_lex : ∀ x ∈ badT, lexS x = ([], 0, 20) ∧ x.size ≤ 2 ^ 40 := by
  intro x hx
  unfold badT at hx
  simp only [List.mem_cons, List.not_mem_nil, or_false] at hx
  rcases hx with rfl | rfl | rfl | rfl | rfl | rfl | rfl
  all_goals exact ⟨by kernel_rfl, by decide⟩
abbrev numS1 : ByteArray := ⟨#[39, 32, 39, 32, 39, 59, 39, 52, 50, 57, 52, 57, 54, 55, 50, 57, 53]⟩
theorem numS1_lex : lexS numS1 = ([⟨2, ⟨#[39, 32, 39]⟩, 32, 0⟩, ⟨2, ⟨#[39, 59, 39]⟩, 59, 4⟩, ⟨2, ⟨#[52, 50, 57, 52, 57, 54, 55, 50, 57, 53]⟩, 4294967295, 7⟩], 0, 0) := by kernel_rfl
end Go.Sx

set_option linter.unusedVariables false
set_option maxRecDepth 100000
namespace Go.Sx
open Go.Proofs
theorem ba_app (a b : ByteArray) : (a ++ b).data.toList = a.data.toList ++ b.data.toList := by
  rw [ByteArray.data_append, Array.toList_append]
theorem ba_size (a : ByteArray) : a.size = a.data.toList.length := by simp
theorem joinL_snoc : ∀ (l : List Tok) (t : Tok), joinL (l ++ [t]) = joinL l ++ (t.text.data.toList ++ [32])
  | [], t => by simp [joinL]
  | x :: l, t => by simp [joinL, joinL_snoc l t]
end Go.Sx

set_option linter.unusedVariables false
set_option maxRecDepth 100000
namespace Go.Sx
open Go.Proofs
/-- A list that a book keeps, and its copy. -/
structure Ent where
  p : Option Addr
  l : Nat
  c : Nat
  q : Option Addr
  d : Nat
  ts : List Tok
def Ent.one (e : Ent) : List Value := [.slice e.p e.l e.c]
def Ent.two (e : Ent) : List Value := [.slice e.q e.l e.d]
def Ent.blks (e : Ent) : List Nat := blkOf e.p ++ blkOf e.q
theorem blkOf_add (p : Option Addr) (k : Nat) : blkOf (p.map fun a => a.add k) = blkOf p := by
  cases p with
  | none => rfl
  | some a => simp [blkOf, add_block]
theorem chGb {h h1 h2 : Hp} {gb : Nat} {l : List Nat} (a : Ch (gb :: l) h h1) (c : Ch [gb] h1 h2) : Ch (gb :: l) h h2 := a.trans c (fun i hi _ => by simp at hi; simp [hi])
end Go.Sx

set_option linter.unusedVariables false
set_option maxRecDepth 100000
namespace Go.Sx
open Go.Proofs
/-- What lay below a place lies there as it did. -/
def Since (b : Nat) (h h' : Hp) : Prop := h.size ≤ h'.size ∧ ∀ i, i < b → i < h.size → h'[i]? = h[i]?
theorem Since.of {ws : List Nat} {b : Nat} {h h' : Hp} (k : Ch ws h h') (hw : ∀ i, i ∈ ws → i < h.size → b ≤ i) : Since b h h' :=
  ⟨k.size, fun i hi hl => k.same i hl fun hm => by have := hw i hm hl; omega⟩
theorem Since.trans {b : Nat} {h h1 h2 : Hp} (a : Since b h h1) (c : Since b h1 h2) : Since b h h2 :=
  ⟨Nat.le_trans a.1 c.1, fun i hi hl => (c.2 i hi (Nat.lt_of_lt_of_le hl a.1)).trans (a.2 i hi hl)⟩
theorem Since.ext {h h1 h2 : Hp} (a : Ext h h1) (c : Since h.size h1 h2) : Ext h h2 :=
  ⟨Nat.le_trans a.size c.1, fun i hi _ => (c.2 i hi (Nat.lt_of_lt_of_le hi a.size)).trans (a.same i hi (by simp))⟩
/-- The mark of a place. -/
def mkL (k j : Nat) : List Value := [.int .i64 (IntKind.wrap .i64 (-100 - (k : Int))), .string ⟨#[]⟩, .int .u32 0, .int .i64 (IntKind.wrap .i64 (0 - (j : Int)))]
theorem setL_take {cells vs : List Value} {o n : Nat} (hv : vs.length = n) (h : o + n ≤ cells.length) : ((setL cells o vs).drop o).take n = vs := by
  rw [setL_eq _ _ _ (by omega), List.append_assoc]
  rw [List.drop_append_of_le_length (by rw [List.length_take]; omega), List.drop_of_length_le (by rw [List.length_take]; omega), List.nil_append, List.take_append_of_le_length (by omega), List.take_of_length_le (by omega)]
theorem setL_before {cells vs : List Value} {o o' n : Nat} (h : o + vs.length ≤ cells.length) (h' : o' + n ≤ o) : ((setL cells o vs).drop o').take n = (cells.drop o').take n := by
  rw [setL_eq _ _ _ (by omega), List.append_assoc]
  rw [List.drop_append_of_le_length (by rw [List.length_take]; omega), List.take_append_of_le_length (by rw [List.length_drop, List.length_take]; omega)]
  rw [List.drop_take, List.take_take, Nat.min_eq_left (by omega)]
end Go.Sx

set_option linter.unusedVariables false
set_option maxRecDepth 100000
namespace Go.Sx
open Go.Proofs
theorem Since.toExt {h h' : Hp} (s : Since h.size h h') : Ext h h' := ⟨s.1, fun i hi _ => s.2 i hi hi⟩
end Go.Sx

set_option linter.unusedVariables false
set_option maxRecDepth 100000
namespace Go.Sx
open Go.Proofs
/-- Is a token this sign? -/
def isS (t : Tok) (c : UInt8) : Bool := t.kind == 3 && t.text.data.toList == [c]
/-- Arguments, with commas between them: a place, where they are wrong. -/
def argsS (n : Nat) : List Tok → List (List Tok) → List Tok → Except Nat (List (List Tok))
  | [], done, cur => if cur = [] then .error n else .ok (done ++ [cur])
  | t :: ts, done, cur => if (isS t 58 || (isS t 44 && decide (cur = []))) = true then .error t.at_ else if isS t 44 = true then argsS n ts (done ++ [cur]) [] else argsS n ts done (cur ++ [t])
def argsA (n : Nat) (ts : List Tok) : Except Nat (List (List Tok)) := if ts = [] then .ok [] else argsS n ts [] []
structure Ln where
  label : ByteArray
  op : ByteArray
  args : List (List Tok)
def lnNil : Ln := ⟨⟨#[]⟩, ⟨#[]⟩, []⟩
/-- Has a line a label? -/
def labB : List Tok → Bool
  | t :: u :: _ => decide (t.kind = 1) && isS u 58
  | _ => false
def parseT (n : Nat) (lab : ByteArray) : List Tok → Ln × Nat × Nat
  | [] => (⟨lab, ⟨#[]⟩, []⟩, 0, 0)
  | t :: ts => if t.kind ≠ 1 then (lnNil, t.at_, 20) else match argsA n ts with
    | .error a => (lnNil, a, 20)
    | .ok l => (⟨lab, t.text, l⟩, 0, 0)
/-- What a line has. -/
def parseL (n : Nat) (ts : List Tok) : Ln × Nat × Nat :=
  if labB ts = true then parseT n ((ts.head?.map (·.text)).getD ⟨#[]⟩) (ts.drop 2) else parseT n ⟨#[]⟩ ts
def parseS (s : ByteArray) : Ln × Nat × Nat := if (lexS s).2.2 ≠ 0 then (lnNil, (lexS s).2.1, (lexS s).2.2) else parseL s.size (lexS s).1
theorem isS_val {t : Tok} {c : UInt8} : (((t.kind : Int) == 3) && (ByteArray.toList t.text == ByteArray.toList ⟨#[c]⟩)) = isS t c := by
  unfold isS
  rw [ByteArray.toList_eq, ByteArray.toList_eq]
  congr 1
  by_cases h : t.kind = 3
  · rw [h]; rfl
  · have h1 : ((t.kind : Int) == 3) = false := by simp; omega
    have h2 : (t.kind == 3) = false := by simp; omega
    rw [h1, h2]
/-- A list of tokens in a heap. -/
structure In where
  p : Option Addr
  l : Nat
  c : Nat
  ts : List Tok
def In.val (a : In) : List Value := [.slice a.p a.l a.c]
/-- A list of lists of tokens; no two share a block. -/
structure Args (h : Hp) (b : Nat) (te es : TypeId) (p : Option Addr) (c : Nat) (al : List In) : Prop where
  out : SL h b te 1 p al.length c (al.map In.val)
  inn : ∀ a, a ∈ al → SL h b es 4 a.p a.l a.c (a.ts.map enc)
  po : ∀ a, a ∈ al → ∀ i, i ∈ blkOf a.p → i ∉ blkOf p
  pp : al.Pairwise fun a a' => ∀ i, i ∈ blkOf a.p → i ∉ blkOf a'.p
theorem Args.keep {ws : List Nat} {h h' : Hp} {b : Nat} {te es : TypeId} {p : Option Addr} {c : Nat} {al : List In} (A : Args h b te es p c al) (k : Ch ws h h') (h1 : ∀ i, i ∈ blkOf p → i ∉ ws) (h2 : ∀ a, a ∈ al → ∀ i, i ∈ blkOf a.p → i ∉ ws) : Args h' b te es p c al :=
  ⟨A.out.keep' k h1, fun a ha => (A.inn a ha).keep' k (h2 a ha), A.po, A.pp⟩
theorem Args.mono {h : Hp} {b b' : Nat} {te es : TypeId} {p : Option Addr} {c : Nat} {al : List In} (A : Args h b te es p c al) (hb : b' ≤ b) : Args h b' te es p c al :=
  ⟨A.out.mono hb, fun a ha => (A.inn a ha).mono hb, A.po, A.pp⟩
theorem Args.nil (h : Hp) (b : Nat) (te es : TypeId) : Args h b te es none 0 [] := ⟨SL.nil _ _ _ _, by simp, by simp, List.Pairwise.nil⟩
/-- One more list behind the others. -/
theorem Args.snoc {h h' : Hp} {b : Nat} {te es : TypeId} {p p' : Option Addr} {c c' : Nat} {al : List In} (A : Args h b te es p c al) {a : In} (hb : b ≤ h.size) (o : SL h' b te 1 p' (al.length + 1) c' (al.map In.val ++ [a.val])) (k : Ch (blkOf p) h h') (hp : p' = p ∨ ∃ x, p' = some x ∧ h.size ≤ x.block)
    (ha : SL h b es 4 a.p a.l a.c (a.ts.map enc)) (h1 : ∀ i, i ∈ blkOf a.p → i ∉ blkOf p) (h2 : ∀ x, x ∈ al → ∀ i, i ∈ blkOf x.p → i ∉ blkOf a.p) : Args h' b te es p' c' (al ++ [a]) := by
  have hp' : ∀ i, i ∈ blkOf p' → i ∈ blkOf p ∨ h.size ≤ i := by
    intro i hi
    rcases hp with rfl | ⟨x, rfl, hx⟩
    · exact .inl hi
    · simp [blkOf] at hi; right; omega
  refine ⟨by rw [List.length_append, List.map_append]; exact o, fun x hx => ?_, fun x hx i hi hh => ?_, List.pairwise_append.2 ⟨A.pp, by simp, fun x hx y hy i hi => ?_⟩⟩
  · rcases List.mem_append.1 hx with hx | hx
    · exact (A.inn x hx).keep' k fun i hi => A.po x hx i hi
    · have hx : x = a := by simpa using hx
      subst hx
      exact ha.keep' k h1
  · rcases List.mem_append.1 hx with hx | hx
    · rcases hp' i hh with h' | h'
      · exact A.po x hx i hi h'
      · have := ((A.inn x hx).blk hi).2; omega
    · have hx : x = a := by simpa using hx
      subst hx
      rcases hp' i hh with h' | h'
      · exact h1 i hi h'
      · have := (ha.blk hi).2; omega
  · have hy : y = a := by simpa using hy
    subst hy
    exact h2 x hx i hi
/-- The last list grows. -/
theorem Args.last {h h' h'' : Hp} {b : Nat} {te es : TypeId} {p : Option Addr} {c : Nat} {dn : List In} {a a' : In} (A : Args h b te es p c (dn ++ [a])) (ha : SL h' b es 4 a'.p a'.l a'.c (a'.ts.map enc)) (k : Ch (blkOf a.p) h h') (hp : a'.p = a.p ∨ ∃ x, a'.p = some x ∧ h.size ≤ x.block)
    (o : SL h'' b te 1 p (dn ++ [a]).length c (((dn ++ [a]).map In.val).set dn.length a'.val)) (k' : Ch (blkOf p) h' h'') : Args h'' b te es p c (dn ++ [a']) := by
  have hp' : ∀ i, i ∈ blkOf a'.p → i ∈ blkOf a.p ∨ h.size ≤ i := by
    intro i hi
    rcases hp with hp | ⟨x, hp, hx⟩
    · rw [hp] at hi; exact .inl hi
    · rw [hp] at hi; simp [blkOf] at hi; right; omega
  obtain ⟨A1, A2, A3, A4⟩ := A
  have hpp := List.pairwise_append.1 A4
  have hset : ((dn ++ [a]).map In.val).set dn.length a'.val = (dn ++ [a']).map In.val := by
    rw [List.map_append, List.map_append, List.set_append_right _ _ (by simp)]
    simp
  rw [hset] at o
  have pa : ∀ i, i ∈ blkOf a.p → i ∉ blkOf p := A3 a (by simp)
  have pa' : ∀ i, i ∈ blkOf a'.p → i ∉ blkOf p := by
    intro i hi hh
    rcases hp' i hi with h1 | h1
    · exact pa i h1 hh
    · have := (A1.blk hh).2; omega
  refine ⟨by simpa using o, fun x hx => ?_, fun x hx i hi => ?_, List.pairwise_append.2 ⟨hpp.1, by simp, fun x hx y hy i hi hh => ?_⟩⟩
  · rcases List.mem_append.1 hx with hx | hx
    · exact ((A2 x (by simp [hx])).keep' k fun i hi => hpp.2.2 x hx a (by simp) i hi).keep' k' fun i hi => A3 x (by simp [hx]) i hi
    · have hx : x = a' := by simpa using hx
      subst hx
      exact ha.keep' k' pa'
  · rcases List.mem_append.1 hx with hx | hx
    · exact A3 x (by simp [hx]) i hi
    · have hx : x = a' := by simpa using hx
      subst hx
      exact pa' i hi
  · have hy : y = a' := by simpa using hy
    subst hy
    rcases hp' i hh with h1 | h1
    · exact hpp.2.2 x hx a (by simp) i hi h1
    · have := ((A2 x (by simp [hx])).blk hi).2; omega
/-- Tokens that lie in a heap, to be read. -/
structure Vw (h : Hp) (p : Option Addr) (l c : Nat) (us : List Tok) : Prop where
  len : l = us.length
  cap : l ≤ c
  cells : ∀ i, (hi : i < us.length) → ∃ a, p = some a ∧ cellsAt h (a.add (i * 4)) 0 (enc us[i])
theorem Vw.keep {ws : List Nat} {h h' : Hp} {p : Option Addr} {l c : Nat} {us : List Tok} (v : Vw h p l c us) (k : Ch ws h h') (hw : ∀ i, i ∈ blkOf p → i ∉ ws) : Vw h' p l c us :=
  ⟨v.len, v.cap, fun i hi => by
    obtain ⟨a, ha, hc⟩ := v.cells i hi
    exact ⟨a, ha, cellsAt_keep k (by rw [add_block]; exact hw _ (by rw [ha]; simp [blkOf])) _ _ hc⟩⟩
theorem SL.vw {h : Hp} {b : Nat} {e : TypeId} {p : Option Addr} {l c : Nat} {us : List Tok} (s : SL h b e 4 p l c (us.map enc)) : Vw h p l c us := by
  refine ⟨by rw [s.1, List.length_map], ?_, fun i hi => ?_⟩
  · cases p with
    | none =>
      have h1 := s.1
      rw [s.2.2.2, List.length_nil] at h1
      omega
    | some a => obtain ⟨_, _, _, _, _, hh, _⟩ := s.2.2; exact hh.1
  · obtain ⟨a, ha, hc⟩ := s.cells (i := i) (by simpa using hi)
    rw [List.getElem_map] at hc
    exact ⟨a, ha, hc⟩
theorem add_add (a : Addr) (i j : Nat) : (a.add i).add j = a.add (i + j) := by
  unfold Addr.add
  by_cases hi : i = 0 <;> by_cases hj : j = 0 <;> simp [hi, hj] <;> omega
theorem Vw.drop {h : Hp} {p : Option Addr} {l c : Nat} {us : List Tok} (v : Vw h p l c us) {k : Nat} (hk : k ≤ l) : Vw h (if c = k then p else p.map fun a => a.add (k * 4)) (l - k) (c - k) (us.drop k) := by
  have := v.len
  have := v.cap
  refine ⟨by rw [List.length_drop]; omega, by omega, fun i hi => ?_⟩
  rw [List.length_drop] at hi
  rw [if_neg (by omega)]
  obtain ⟨a, rfl, hc⟩ := v.cells (k + i) (by omega)
  refine ⟨_, rfl, ?_⟩
  rw [add_add, ← Nat.add_mul, List.getElem_drop]
  exact hc
theorem blkOf_if (p : Option Addr) (c k n : Nat) : blkOf (if c = k then p else p.map fun a => a.add n) = blkOf p := by
  split
  · rfl
  · exact blkOf_add p n
def argsPost (n : Nat) (ts : List Tok) (h : Hp) (v : Value) (h' : Hp) : Prop :=
  Ext h h' ∧ match argsA n ts with
  | .error a => v = .tuple #[.slice none 0 0, .int .i64 a, .int .i64 20]
  | .ok l => ∃ p c al, v = .tuple #[.slice p al.length c, .int .i64 0, .int .i64 0] ∧ Args h' h.size 23 35 p c al ∧ al.map In.ts = l
abbrev argCs : List Comp := [(false, [.slice 0]), (false, [.int .i64]), (false, [.int .i64]), (false, [.slice 0]), (false, [.int .i64])]
def argI (n : Nat) (us : List Tok) (h : Hp) (x : HVs (flat argCs)) (m : Nat) (h' : Hp) : Prop :=
  ∃ (i : Nat) (dn : List In) (cu : In), x.2.2.2.2.1 = (i : Int) ∧ i ≤ us.length ∧ m = us.length - i ∧ Ext h h' ∧ x.2.2.2.1.2.1 = dn.length + 1 ∧ Args h' h.size 23 35 x.2.2.2.1.1 x.2.2.2.1.2.2 (dn ++ [cu]) ∧
    argsS n us [] [] = argsS n (us.drop i) (dn.map In.ts) cu.ts ∧ dn.length ≤ i ∧ cu.ts.length ≤ i
end Go.Sx
