/- What the inner ParseUint answers at rows of digits, to the bases 10 and 16. Condition: at most 2^48 bytes. -/
import Derived.Test.YtpbjlnlekobodaaDoorLexC
set_option linter.unusedVariables false
set_option linter.unusedSimpArgs false
set_option linter.deprecated false
set_option maxRecDepth 100000
namespace Go.Sx
open Go.Proofs
/-- A digit's worth. -/
def dv (c : UInt8) : Nat := if c.toNat < 58 then c.toNat - 48 else c.toNat - 87
def valB (b : Nat) (l : List UInt8) : Nat := l.foldl (fun n c => n * b + dv c) 0
def isHex (c : UInt8) : Bool := isDig c || (97 ≤ c.toNat && c.toNat ≤ 102)
theorem valB_snoc (b : Nat) (l : List UInt8) (k : Nat) (hk : k < l.length) : valB b (l.take (k + 1)) = valB b (l.take k) * b + dv (l.getD k 0) := by
  unfold valB
  rw [List.take_succ_eq_append_getElem hk, List.foldl_append]
  simp [List.getD, List.getElem?_eq_getElem hk]
theorem foldl_ge (b : Nat) (hb : 0 < b) : ∀ (l : List UInt8) (n : Nat), n ≤ l.foldl (fun n c => n * b + dv c) n
  | [], n => Nat.le_refl _
  | c :: l, n => by
    rw [List.foldl_cons]
    refine Nat.le_trans ?_ (foldl_ge b hb l _)
    have := Nat.mul_le_mul_left n hb
    omega
theorem valB_take_le (b : Nat) (hb : 0 < b) (l : List UInt8) (k : Nat) : valB b (l.take k) ≤ valB b l := by
  conv => rhs; rw [← List.take_append_drop k l]
  unfold valB
  rw [List.foldl_append]
  exact foldl_ge b hb _ _
theorem lower_hc (c : UInt8) (h : Hp) (h1 : 97 ≤ c.toNat) (h2 : c.toNat ≤ 122) : HCp Tryd.prog 121 [.int .u8 (cN c)] h (.int .u8 (cN c)) := by
  refine hcp_of mixed Tryd.func121 (by kernel_rfl) (t_internal_strconv_lower_eq _) ?_
  refine ⟨?_, rfl⟩
  congr 1
  have := all_bytes (fun c => !(decide (97 ≤ c.toNat) && decide (c.toNat ≤ 122)) || decide (IntKind.wrap .u8 ((BitVec.toNat ((BitVec.ofInt 8 (cN c)) ||| (BitVec.ofInt 8 (32 : Int)))) : Int) = cN c)) (fun _ => true) (by decide +kernel) c
  simp only [h1, h2, decide_true, Bool.and_self, Bool.not_true, Bool.false_or, decide_eq_true_eq] at this
  exact this
/-- What strconv's ParseUint says of a row of digits. -/
def puR (b : Nat) (l : List UInt8) : Nat × Value := if l = [] then (0, .iface 157 (.int .i64 2)) else if valB b l < 4294967296 then (valB b l, .nilIface) else (4294967295, .iface 157 (.int .i64 1))
theorem nil_iff (s : ByteArray) : s.data.toList = [] ↔ s.size = 0 := by
  have hsz : s.data.toList.length = s.size := by simp
  constructor
  · intro h; rw [h] at hsz; simpa using hsz.symm
  · intro h; exact List.eq_nil_of_length_eq_zero (by omega)
theorem puTen_hc (s : ByteArray) (h : Hp) (hs : s.size ≤ 2 ^ 48) (hd : ∀ i, i < s.size → isDig (s.data.toList.getD i 0) = true) :
    HC Tryd.prog 108 #[.string s, .int .i64 10, .int .i64 32] h fun v h' => v = .tuple #[.int .u64 (puR 10 s.data.toList).1, (puR 10 s.data.toList).2] ∧ Ext h h' := by
  refine hcr_of (args := [.string s, .int .i64 10, .int .i64 32]) mixed Tryd.func108 (by kernel_rfl) (t_internal_strconv_ParseUint_ten_eq s) ?_
  unfold t_internal_strconv_ParseUint_ten puR
  have hsz : s.data.toList.length = s.size := by simp
  refine cond_mk (fun h1 => ?_) (fun h1 => ?_)
  · have h1 : s.data.toList = [] := by rw [toList_nil] at h1; rw [nil_iff]; simpa using h1
    rw [if_pos h1]
    exact ⟨rfl, Ch.refl _ _⟩
  have h1 : s.data.toList ≠ [] := by rw [toList_nil] at h1; rw [ne_eq, nil_iff]; simpa using h1
  rw [if_neg h1]
  refine need_of (by omega) (sem_slice ?_)
  refine toBytes_of (e := 5) (by kernel_rfl) (by kernel_rfl) (by kernel_rfl) s ?_
  intro cap h1' hcap e1 hcell1
  refine ⟨_, _, _, rfl, ?_⟩
  refine loop_of (cs := [(false, [.int .u64]), (false, [.invalid]), (false, [.bool]), (false, [.int .u64]), (false, [.int .i64])])
    (fun x n h' => h' = h1' ∧ x.2.2.1 = false ∧ ∃ k : Nat, x.2.2.2.2.1 = (k : Int) ∧ x.2.2.2.1 = (valB 10 (s.data.toList.take k) : Int) ∧ k ≤ s.size ∧ n = s.size - k ∧ valB 10 (s.data.toList.take k) < 4294967296)
    ((0 : Int), Value.nilIface, false, (0 : Int), (0 : Int), ()) s.size rfl ⟨rfl, rfl, 0, rfl, rfl, by omega, by omega, by simp [valB]⟩ ?_
  rintro ⟨n4, v5, b6, n7, n8, ⟨⟩⟩ m h' ⟨rfl, hb6, k, hk, hn7, hle, rfl, hv⟩
  simp only at hb6 hk hn7
  subst hb6 hk hn7
  refine cond_mk (fun hb => ?_) (fun hb => ?_)
  · have hlt : (k : Int) < s.size := of_decide_eq_true hb
    have hkl : k < s.size := by omega
    refine need_of ⟨(by show (0:Int) ≤ (k:Int); omega), hlt⟩ (osome_mk rfl ?_)
    have hc := hcell1 k hkl
    have hdk := (isDig_iff _).1 (hd k hkl)
    refine loads_of (cN (s.data.toList.getD k 0), ()) ⟨?_, trivial⟩ ?_
    · rw [add_box, add_box]
      rw [show 0 + Int.toNat (k : Int) * 1 + 0 = k by omega]
      exact hc
    have hst := valB_snoc 10 s.data.toList k (by omega)
    have hdv : (dv (s.data.toList.getD k 0) : Int) = cN (s.data.toList.getD k 0) - 48 := by
      unfold dv cN at *
      rw [if_pos (by omega)]; omega
    generalize cN (s.data.toList.getD k 0) = c at hdk hdv ⊢
    generalize dv (s.data.toList.getD k 0) = d at hst hdv
    have hw1 : IntKind.wrap .u8 (c - 48) = d := by rw [wrap_u8 (by omega) (by omega)]; omega
    have hw2 : IntKind.wrap .u64 (d : Int) = d := wrap_u64 (by omega) (by omega)
    have hw3 : IntKind.wrap .u64 ((valB 10 (s.data.toList.take k) : Int) * 10) = (valB 10 (s.data.toList.take k) : Int) * 10 := wrap_u64 (by omega) (by omega)
    have hw4 : IntKind.wrap .u64 ((valB 10 (s.data.toList.take k) : Int) * 10 + d) = (valB 10 (s.data.toList.take (k + 1)) : Int) := by rw [wrap_u64 (by omega) (by omega), hst]; omega
    refine cond_f (show (c == 95) = false from by simp; omega) ?_
    refine cond_t (show decide (48 ≤ c) = true from decide_eq_true (by omega)) (cond_t (show decide (c ≤ 57) = true from decide_eq_true (by omega)) ?_)
    rw [hw1, hw2]
    refine cond_f (show decide ((d : Int) ≥ 10) = false from decide_eq_false (by omega)) ?_
    refine cond_f (show decide ((valB 10 (s.data.toList.take k) : Int) ≥ 1844674407370955162) = false from decide_eq_false (by omega)) ?_
    rw [hw3, hw4]
    refine cond_f (decide_eq_false (by omega)) ?_
    have hmono := valB_take_le 10 (by omega) s.data.toList (k + 1)
    refine cond_mk (fun h5 => ?_) (fun h5 => ?_)
    · have h5 := of_decide_eq_true h5
      rw [if_neg (by omega)]
      exact ⟨rfl, e1⟩
    · have h5 := of_decide_eq_false h5
      have hw5 : IntKind.wrap .i64 ((k : Int) + 1) = (k : Int) + 1 := wrap_i64 (by omega) (by omega)
      exact again_mk (cs := [(false, [.int .u64]), (false, [.invalid]), (false, [.bool]), (false, [.int .u64]), (false, [.int .i64])]) (n4, v5, false, (valB 10 (s.data.toList.take (k + 1)) : Int), (k : Int) + 1, ()) (s.size - (k + 1)) rfl (by omega) (congrArg (fun z => [Value.int .u64 n4, v5, .bool false, .int .u64 (valB 10 (s.data.toList.take (k + 1)) : Int), .int .i64 z]) hw5)
        ⟨rfl, rfl, k + 1, (show ((k : Int) + 1) = ((k + 1 : Nat) : Int) from by omega), rfl, by omega, rfl, by omega⟩
  · have hge : ¬ (k : Int) < s.size := of_decide_eq_false hb
    have hk : k = s.data.toList.length := by omega
    rw [hk, List.take_length] at hv
    refine cond_f rfl ?_
    rw [if_pos hv]
    refine ⟨?_, e1⟩
    show Value.tuple #[.int .u64 (valB 10 (s.data.toList.take k) : Int), .nilIface] = _
    rw [hk, List.take_length]
theorem isHex_iff (c : UInt8) : isHex c = true ↔ (48 ≤ cN c ∧ cN c ≤ 57) ∨ (97 ≤ cN c ∧ cN c ≤ 102) := by
  unfold isHex
  rw [Bool.or_eq_true, isDig_iff]
  unfold cN
  simp only [Bool.and_eq_true, decide_eq_true_eq]
  omega
theorem dv_hex (c : UInt8) (h : isHex c = true) : (cN c ≤ 57 → (dv c : Int) = cN c - 48) ∧ (57 < cN c → (dv c : Int) = cN c - 87) ∧ dv c < 16 := by
  have := (isHex_iff c).1 h
  unfold dv cN at *
  split <;> omega
theorem puHex_hc (s : ByteArray) (h : Hp) (hs : s.size ≤ 2 ^ 48) (hd : ∀ i, i < s.size → isHex (s.data.toList.getD i 0) = true) :
    HC Tryd.prog 108 #[.string s, .int .i64 16, .int .i64 32] h fun v h' => v = .tuple #[.int .u64 (puR 16 s.data.toList).1, (puR 16 s.data.toList).2] ∧ Ext h h' := by
  refine hcr_of (args := [.string s, .int .i64 16, .int .i64 32]) mixed Tryd.func108 (by kernel_rfl) (t_internal_strconv_ParseUint_hex_eq s) ?_
  unfold t_internal_strconv_ParseUint_hex puR
  have hsz : s.data.toList.length = s.size := by simp
  refine cond_mk (fun h1 => ?_) (fun h1 => ?_)
  · have h1 : s.data.toList = [] := by rw [toList_nil] at h1; rw [nil_iff]; simpa using h1
    rw [if_pos h1]
    exact ⟨rfl, Ch.refl _ _⟩
  have h1 : s.data.toList ≠ [] := by rw [toList_nil] at h1; rw [ne_eq, nil_iff]; simpa using h1
  rw [if_neg h1]
  refine need_of (by omega) (sem_slice ?_)
  refine toBytes_of (e := 5) (by kernel_rfl) (by kernel_rfl) (by kernel_rfl) s ?_
  intro cap h1' hcap e1 hcell1
  refine ⟨_, _, _, rfl, ?_⟩
  refine loop_of (cs := [(false, [.int .u64]), (false, [.invalid]), (false, [.bool]), (false, [.int .u64]), (false, [.int .i64])])
    (fun x n h' => h' = h1' ∧ x.2.2.1 = false ∧ ∃ k : Nat, x.2.2.2.2.1 = (k : Int) ∧ x.2.2.2.1 = (valB 16 (s.data.toList.take k) : Int) ∧ k ≤ s.size ∧ n = s.size - k ∧ valB 16 (s.data.toList.take k) < 4294967296)
    ((0 : Int), Value.nilIface, false, (0 : Int), (0 : Int), ()) s.size rfl ⟨rfl, rfl, 0, rfl, rfl, by omega, by omega, by simp [valB]⟩ ?_
  rintro ⟨n4, v5, b6, n7, n8, ⟨⟩⟩ m h' ⟨rfl, hb6, k, hk, hn7, hle, rfl, hv⟩
  simp only at hb6 hk hn7
  subst hb6 hk hn7
  refine cond_mk (fun hb => ?_) (fun hb => ?_)
  · have hlt : (k : Int) < s.size := of_decide_eq_true hb
    have hkl : k < s.size := by omega
    refine need_of ⟨(by show (0:Int) ≤ (k:Int); omega), hlt⟩ (osome_mk rfl ?_)
    have hc := hcell1 k hkl
    have hdk := (isHex_iff _).1 (hd k hkl)
    refine loads_of (cN (s.data.toList.getD k 0), ()) ⟨?_, trivial⟩ ?_
    · rw [add_box, add_box]
      rw [show 0 + Int.toNat (k : Int) * 1 + 0 = k by omega]
      exact hc
    have hst := valB_snoc 16 s.data.toList k (by omega)
    have hdv := dv_hex _ (hd k hkl)
    have hlo := fun hh => lower_hc (s.data.toList.getD k 0) h' hh
    have hcn : ((s.data.toList.getD k 0).toNat : Int) = cN (s.data.toList.getD k 0) := rfl
    generalize (s.data.toList.getD k 0).toNat = cn at hlo hcn
    generalize cN (s.data.toList.getD k 0) = c at hdk hdv hlo hcn ⊢
    generalize dv (s.data.toList.getD k 0) = d at hst hdv
    have hw2 : IntKind.wrap .u64 (d : Int) = d := wrap_u64 (by omega) (by omega)
    have hw3 : IntKind.wrap .u64 ((valB 16 (s.data.toList.take k) : Int) * 16) = (valB 16 (s.data.toList.take k) : Int) * 16 := wrap_u64 (by omega) (by omega)
    have hw4 : IntKind.wrap .u64 ((valB 16 (s.data.toList.take k) : Int) * 16 + d) = (valB 16 (s.data.toList.take (k + 1)) : Int) := by rw [wrap_u64 (by omega) (by omega), hst]; omega
    have hw5 : IntKind.wrap .i64 ((k : Int) + 1) = (k : Int) + 1 := wrap_i64 (by omega) (by omega)
    have hmono := valB_take_le 16 (by omega) s.data.toList (k + 1)
    refine cond_f (show (c == 95) = false from by simp; omega) ?_
    refine cond_t (show decide (48 ≤ c) = true from decide_eq_true (by omega)) ?_
    refine cond_mk (fun h9 => ?_) (fun h9 => ?_)
    · have h9 : c ≤ 57 := of_decide_eq_true h9
      have hw1 : IntKind.wrap .u8 (c - 48) = d := by rw [wrap_u8 (by omega) (by omega)]; omega
      rw [hw1, hw2]
      refine cond_f (show decide ((d : Int) ≥ 16) = false from decide_eq_false (by omega)) ?_
      refine cond_f (show decide ((valB 16 (s.data.toList.take k) : Int) ≥ 1152921504606846976) = false from decide_eq_false (by omega)) ?_
      rw [hw3, hw4]
      refine cond_f (decide_eq_false (by omega)) ?_
      refine cond_mk (fun h5 => ?_) (fun h5 => ?_)
      · have h5 := of_decide_eq_true h5
        rw [if_neg (by omega)]
        exact ⟨rfl, e1⟩
      · have h5 := of_decide_eq_false h5
        exact again_mk (cs := [(false, [.int .u64]), (false, [.invalid]), (false, [.bool]), (false, [.int .u64]), (false, [.int .i64])]) (n4, v5, false, (valB 16 (s.data.toList.take (k + 1)) : Int), (k : Int) + 1, ()) (s.size - (k + 1)) rfl (by omega) (congrArg (fun z => [Value.int .u64 n4, v5, .bool false, .int .u64 (valB 16 (s.data.toList.take (k + 1)) : Int), .int .i64 z]) hw5)
          ⟨rfl, rfl, k + 1, (show ((k : Int) + 1) = ((k + 1 : Nat) : Int) from by omega), rfl, by omega, rfl, by omega⟩
    · have h9 : ¬ c ≤ 57 := of_decide_eq_false h9
      have hlo := hlo (by omega) (by omega)
      refine call_int hlo ?_
      refine cond_t (show decide (97 ≤ c) = true from decide_eq_true (by omega)) ?_
      refine call_int hlo ?_
      refine cond_t (show decide (c ≤ 122) = true from decide_eq_true (by omega)) ?_
      refine call_int hlo ?_
      have hw0 : IntKind.wrap .u8 (c - 97) = c - 97 := wrap_u8 (by omega) (by omega)
      have hw1 : IntKind.wrap .u8 (c - 97 + 10) = d := by rw [wrap_u8 (by omega) (by omega)]; omega
      rw [hw0, hw1, hw2]
      refine cond_f (show decide ((d : Int) ≥ 16) = false from decide_eq_false (by omega)) ?_
      refine cond_f (show decide ((valB 16 (s.data.toList.take k) : Int) ≥ 1152921504606846976) = false from decide_eq_false (by omega)) ?_
      rw [hw3, hw4]
      refine cond_f (decide_eq_false (by omega)) ?_
      refine cond_mk (fun h5 => ?_) (fun h5 => ?_)
      · have h5 := of_decide_eq_true h5
        rw [if_neg (by omega)]
        exact ⟨rfl, e1⟩
      · have h5 := of_decide_eq_false h5
        exact again_mk (cs := [(false, [.int .u64]), (false, [.invalid]), (false, [.bool]), (false, [.int .u64]), (false, [.int .i64])]) (n4, v5, false, (valB 16 (s.data.toList.take (k + 1)) : Int), (k : Int) + 1, ()) (s.size - (k + 1)) rfl (by omega) (congrArg (fun z => [Value.int .u64 n4, v5, .bool false, .int .u64 (valB 16 (s.data.toList.take (k + 1)) : Int), .int .i64 z]) hw5)
          ⟨rfl, rfl, k + 1, (show ((k : Int) + 1) = ((k + 1 : Nat) : Int) from by omega), rfl, by omega, rfl, by omega⟩
  · have hge : ¬ (k : Int) < s.size := of_decide_eq_false hb
    have hk : k = s.data.toList.length := by omega
    rw [hk, List.take_length] at hv
    refine cond_f rfl ?_
    rw [if_pos hv]
    refine ⟨?_, e1⟩
    show Value.tuple #[.int .u64 (valB 16 (s.data.toList.take k) : Int), .nilIface] = _
    rw [hk, List.take_length]
end Go.Sx
