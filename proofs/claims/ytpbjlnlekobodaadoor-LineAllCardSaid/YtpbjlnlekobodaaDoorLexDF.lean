/- ParseUint, HasPrefix and number, over heaps. Condition: at most 2^48 bytes. -/
import Derived.Test.YtpbjlnlekobodaaDoorLexAC
set_option linter.unusedVariables false
set_option linter.unusedSimpArgs false
set_option linter.deprecated false
set_option maxRecDepth 100000
namespace Go.Sx
open Go.Proofs
/-- A digit's worth. -/
def dv (c : UInt8) : Nat := if c.toNat < 58 then c.toNat - 48 else c.toNat - 87
def valB (b : Nat) (l : List UInt8) : Nat := l.foldl (fun n c => n * b + dv c) 0
def isHex (c : UInt8) : Bool := isDig c || (97 ≤ c.toNat && c.toNat ≤ 102)
theorem valB_snoc (b : Nat) (l : List UInt8) (k : Nat) (hk : k < l.length) : valB b (l.take (k + 1)) = valB b (l.take k) * b + dv (l.getD k 0) := by
  unfold valB
  rw [List.take_succ_eq_append_getElem hk, List.foldl_append]
  simp [List.getD, List.getElem?_eq_getElem hk]
theorem foldl_ge (b : Nat) (hb : 0 < b) : ∀ (l : List UInt8) (n : Nat), n ≤ l.foldl (fun n c => n * b + dv c) n
  | [], n => Nat.le_refl _
  | c :: l, n => by
    rw [List.foldl_cons]
    refine Nat.le_trans ?_ (foldl_ge b hb l _)
    have := Nat.mul_le_mul_left n hb
    omega
theorem valB_take_le (b : Nat) (hb : 0 < b) (l : List UInt8) (k : Nat) : valB b (l.take k) ≤ valB b l := by
  conv => rhs; rw [← List.take_append_drop k l]
  unfold valB
  rw [List.foldl_append]
  exact foldl_ge b hb _ _
theorem lower_hc (c : UInt8) (h : Hp) (h1 : 97 ≤ c.toNat) (h2 : c.toNat ≤ 122) : HCp Tryd.prog 121 [.int .u8 (cN c)] h (.int .u8 (cN c)) := by
  refine hcp_of mixed Tryd.func121 (by kernel_rfl) (t_internal_strconv_lower_eq _) ?_
  refine ⟨?_, rfl⟩
  congr 1
  have := all_bytes (fun c => !(decide (97 ≤ c.toNat) && decide (c.toNat ≤ 122)) || decide (IntKind.wrap .u8 ((BitVec.toNat ((BitVec.ofInt 8 (cN c)) ||| (BitVec.ofInt 8 (32 : Int)))) : Int) = cN c)) (fun _ => true) (by decide +kernel) c
  simp only [h1, h2, decide_true, Bool.and_self, Bool.not_true, Bool.false_or, decide_eq_true_eq] at this
  exact this
/-- What strconv's ParseUint says of a row of digits. -/
def puR (b : Nat) (l : List UInt8) : Nat × Value := if l = [] then (0, .iface 157 (.int .i64 2)) else if valB b l < 4294967296 then (valB b l, .nilIface) else (4294967295, .iface 157 (.int .i64 1))
theorem nil_iff (s : ByteArray) : s.data.toList = [] ↔ s.size = 0 := by
  have hsz : s.data.toList.length = s.size := by simp
  constructor
  · intro h; rw [h] at hsz; simpa using hsz.symm
  · intro h; exact List.eq_nil_of_length_eq_zero (by omega)
theorem puTen_hc (s : ByteArray) (h : Hp) (hs : s.size ≤ 2 ^ 48) (hd : ∀ i, i < s.size → isDig (s.data.toList.getD i 0) = true) :
    HC Tryd.prog 108 #[.string s, .int .i64 10, .int .i64 32] h fun v h' => v = .tuple #[.int .u64 (puR 10 s.data.toList).1, (puR 10 s.data.toList).2] ∧ Ext h h' := by
  refine hcr_of (args := [.string s, .int .i64 10, .int .i64 32]) mixed Tryd.func108 (by kernel_rfl) (t_internal_strconv_ParseUint_ten_eq s) ?_
  unfold t_internal_strconv_ParseUint_ten puR
  have hsz : s.data.toList.length = s.size := by simp
  refine cond_mk (fun h1 => ?_) (fun h1 => ?_)
  · have h1 : s.data.toList = [] := by rw [toList_nil] at h1; rw [nil_iff]; simpa using h1
    rw [if_pos h1]
    exact ⟨rfl, Ch.refl _ _⟩
  have h1 : s.data.toList ≠ [] := by rw [toList_nil] at h1; rw [ne_eq, nil_iff]; simpa using h1
  rw [if_neg h1]
  refine need_of (by omega) (sem_slice ?_)
  refine toBytes_of (e := 5) (by kernel_rfl) (by kernel_rfl) (by kernel_rfl) s ?_
  intro cap h1' hcap e1 hcell1
  refine ⟨_, _, _, rfl, ?_⟩
  refine loop_of (cs := [(false, [.int .u64]), (false, [.invalid]), (false, [.bool]), (false, [.int .u64]), (false, [.int .i64])])
    (fun x n h' => h' = h1' ∧ x.2.2.1 = false ∧ ∃ k : Nat, x.2.2.2.2.1 = (k : Int) ∧ x.2.2.2.1 = (valB 10 (s.data.toList.take k) : Int) ∧ k ≤ s.size ∧ n = s.size - k ∧ valB 10 (s.data.toList.take k) < 4294967296)
    ((0 : Int), Value.nilIface, false, (0 : Int), (0 : Int), ()) s.size rfl ⟨rfl, rfl, 0, rfl, rfl, by omega, by omega, by simp [valB]⟩ ?_
  rintro ⟨n4, v5, b6, n7, n8, ⟨⟩⟩ m h' ⟨rfl, hb6, k, hk, hn7, hle, rfl, hv⟩
  simp only at hb6 hk hn7
  subst hb6 hk hn7
  refine cond_mk (fun hb => ?_) (fun hb => ?_)
  · have hlt : (k : Int) < s.size := of_decide_eq_true hb
    have hkl : k < s.size := by omega
    refine need_of ⟨(by show (0:Int) ≤ (k:Int); omega), hlt⟩ (osome_mk rfl ?_)
    have hc := hcell1 k hkl
    have hdk := (isDig_iff _).1 (hd k hkl)
    refine loads_of (cN (s.data.toList.getD k 0), ()) ⟨?_, trivial⟩ ?_
    · rw [add_box, add_box]
      rw [show 0 + Int.toNat (k : Int) * 1 + 0 = k by omega]
      exact hc
    have hst := valB_snoc 10 s.data.toList k (by omega)
    have hdv : (dv (s.data.toList.getD k 0) : Int) = cN (s.data.toList.getD k 0) - 48 := by
      unfold dv cN at *
      rw [if_pos (by omega)]; omega
    generalize cN (s.data.toList.getD k 0) = c at hdk hdv ⊢
    generalize dv (s.data.toList.getD k 0) = d at hst hdv
    have hw1 : IntKind.wrap .u8 (c - 48) = d := by rw [wrap_u8 (by omega) (by omega)]; omega
    have hw2 : IntKind.wrap .u64 (d : Int) = d := wrap_u64 (by omega) (by omega)
    have hw3 : IntKind.wrap .u64 ((valB 10 (s.data.toList.take k) : Int) * 10) = (valB 10 (s.data.toList.take k) : Int) * 10 := wrap_u64 (by omega) (by omega)
    have hw4 : IntKind.wrap .u64 ((valB 10 (s.data.toList.take k) : Int) * 10 + d) = (valB 10 (s.data.toList.take (k + 1)) : Int) := by rw [wrap_u64 (by omega) (by omega), hst]; omega
    refine cond_f (show (c == 95) = false from by simp; omega) ?_
    refine cond_t (show decide (48 ≤ c) = true from decide_eq_true (by omega)) (cond_t (show decide (c ≤ 57) = true from decide_eq_true (by omega)) ?_)
    rw [hw1, hw2]
    refine cond_f (show decide ((d : Int) ≥ 10) = false from decide_eq_false (by omega)) ?_
    refine cond_f (show decide ((valB 10 (s.data.toList.take k) : Int) ≥ 1844674407370955162) = false from decide_eq_false (by omega)) ?_
    rw [hw3, hw4]
    refine cond_f (decide_eq_false (by omega)) ?_
    have hmono := valB_take_le 10 (by omega) s.data.toList (k + 1)
    refine cond_mk (fun h5 => ?_) (fun h5 => ?_)
    · have h5 := of_decide_eq_true h5
      rw [if_neg (by omega)]
      exact ⟨rfl, e1⟩
    · have h5 := of_decide_eq_false h5
      have hw5 : IntKind.wrap .i64 ((k : Int) + 1) = (k : Int) + 1 := wrap_i64 (by omega) (by omega)
      exact again_mk (cs := [(false, [.int .u64]), (false, [.invalid]), (false, [.bool]), (false, [.int .u64]), (false, [.int .i64])]) (n4, v5, false, (valB 10 (s.data.toList.take (k + 1)) : Int), (k : Int) + 1, ()) (s.size - (k + 1)) rfl (by omega) (congrArg (fun z => [Value.int .u64 n4, v5, .bool false, .int .u64 (valB 10 (s.data.toList.take (k + 1)) : Int), .int .i64 z]) hw5)
        ⟨rfl, rfl, k + 1, (show ((k : Int) + 1) = ((k + 1 : Nat) : Int) from by omega), rfl, by omega, rfl, by omega⟩
  · have hge : ¬ (k : Int) < s.size := of_decide_eq_false hb
    have hk : k = s.data.toList.length := by omega
    rw [hk, List.take_length] at hv
    refine cond_f rfl ?_
    rw [if_pos hv]
    refine ⟨?_, e1⟩
    show Value.tuple #[.int .u64 (valB 10 (s.data.toList.take k) : Int), .nilIface] = _
    rw [hk, List.take_length]
theorem isHex_iff (c : UInt8) : isHex c = true ↔ (48 ≤ cN c ∧ cN c ≤ 57) ∨ (97 ≤ cN c ∧ cN c ≤ 102) := by
  unfold isHex
  rw [Bool.or_eq_true, isDig_iff]
  unfold cN
  simp only [Bool.and_eq_true, decide_eq_true_eq]
  omega
theorem dv_hex (c : UInt8) (h : isHex c = true) : (cN c ≤ 57 → (dv c : Int) = cN c - 48) ∧ (57 < cN c → (dv c : Int) = cN c - 87) ∧ dv c < 16 := by
  have := (isHex_iff c).1 h
  unfold dv cN at *
  split <;> omega
theorem puHex_hc (s : ByteArray) (h : Hp) (hs : s.size ≤ 2 ^ 48) (hd : ∀ i, i < s.size → isHex (s.data.toList.getD i 0) = true) :
    HC Tryd.prog 108 #[.string s, .int .i64 16, .int .i64 32] h fun v h' => v = .tuple #[.int .u64 (puR 16 s.data.toList).1, (puR 16 s.data.toList).2] ∧ Ext h h' := by
  refine hcr_of (args := [.string s, .int .i64 16, .int .i64 32]) mixed Tryd.func108 (by kernel_rfl) (t_internal_strconv_ParseUint_hex_eq s) ?_
  unfold t_internal_strconv_ParseUint_hex puR
  have hsz : s.data.toList.length = s.size := by simp
  refine cond_mk (fun h1 => ?_) (fun h1 => ?_)
  · have h1 : s.data.toList = [] := by rw [toList_nil] at h1; rw [nil_iff]; simpa using h1
    rw [if_pos h1]
    exact ⟨rfl, Ch.refl _ _⟩
  have h1 : s.data.toList ≠ [] := by rw [toList_nil] at h1; rw [ne_eq, nil_iff]; simpa using h1
  rw [if_neg h1]
  refine need_of (by omega) (sem_slice ?_)
  refine toBytes_of (e := 5) (by kernel_rfl) (by kernel_rfl) (by kernel_rfl) s ?_
  intro cap h1' hcap e1 hcell1
  refine ⟨_, _, _, rfl, ?_⟩
  refine loop_of (cs := [(false, [.int .u64]), (false, [.invalid]), (false, [.bool]), (false, [.int .u64]), (false, [.int .i64])])
    (fun x n h' => h' = h1' ∧ x.2.2.1 = false ∧ ∃ k : Nat, x.2.2.2.2.1 = (k : Int) ∧ x.2.2.2.1 = (valB 16 (s.data.toList.take k) : Int) ∧ k ≤ s.size ∧ n = s.size - k ∧ valB 16 (s.data.toList.take k) < 4294967296)
    ((0 : Int), Value.nilIface, false, (0 : Int), (0 : Int), ()) s.size rfl ⟨rfl, rfl, 0, rfl, rfl, by omega, by omega, by simp [valB]⟩ ?_
  rintro ⟨n4, v5, b6, n7, n8, ⟨⟩⟩ m h' ⟨rfl, hb6, k, hk, hn7, hle, rfl, hv⟩
  simp only at hb6 hk hn7
  subst hb6 hk hn7
  refine cond_mk (fun hb => ?_) (fun hb => ?_)
  · have hlt : (k : Int) < s.size := of_decide_eq_true hb
    have hkl : k < s.size := by omega
    refine need_of ⟨(by show (0:Int) ≤ (k:Int); omega), hlt⟩ (osome_mk rfl ?_)
    have hc := hcell1 k hkl
    have hdk := (isHex_iff _).1 (hd k hkl)
    refine loads_of (cN (s.data.toList.getD k 0), ()) ⟨?_, trivial⟩ ?_
    · rw [add_box, add_box]
      rw [show 0 + Int.toNat (k : Int) * 1 + 0 = k by omega]
      exact hc
    have hst := valB_snoc 16 s.data.toList k (by omega)
    have hdv := dv_hex _ (hd k hkl)
    have hlo := fun hh => lower_hc (s.data.toList.getD k 0) h' hh
    have hcn : ((s.data.toList.getD k 0).toNat : Int) = cN (s.data.toList.getD k 0) := rfl
    generalize (s.data.toList.getD k 0).toNat = cn at hlo hcn
    generalize cN (s.data.toList.getD k 0) = c at hdk hdv hlo hcn ⊢
    generalize dv (s.data.toList.getD k 0) = d at hst hdv
    have hw2 : IntKind.wrap .u64 (d : Int) = d := wrap_u64 (by omega) (by omega)
    have hw3 : IntKind.wrap .u64 ((valB 16 (s.data.toList.take k) : Int) * 16) = (valB 16 (s.data.toList.take k) : Int) * 16 := wrap_u64 (by omega) (by omega)
    have hw4 : IntKind.wrap .u64 ((valB 16 (s.data.toList.take k) : Int) * 16 + d) = (valB 16 (s.data.toList.take (k + 1)) : Int) := by rw [wrap_u64 (by omega) (by omega), hst]; omega
    have hw5 : IntKind.wrap .i64 ((k : Int) + 1) = (k : Int) + 1 := wrap_i64 (by omega) (by omega)
    have hmono := valB_take_le 16 (by omega) s.data.toList (k + 1)
    refine cond_f (show (c == 95) = false from by simp; omega) ?_
    refine cond_t (show decide (48 ≤ c) = true from decide_eq_true (by omega)) ?_
    refine cond_mk (fun h9 => ?_) (fun h9 => ?_)
    · have h9 : c ≤ 57 := of_decide_eq_true h9
      have hw1 : IntKind.wrap .u8 (c - 48) = d := by rw [wrap_u8 (by omega) (by omega)]; omega
      rw [hw1, hw2]
      refine cond_f (show decide ((d : Int) ≥ 16) = false from decide_eq_false (by omega)) ?_
      refine cond_f (show decide ((valB 16 (s.data.toList.take k) : Int) ≥ 1152921504606846976) = false from decide_eq_false (by omega)) ?_
      rw [hw3, hw4]
      refine cond_f (decide_eq_false (by omega)) ?_
      refine cond_mk (fun h5 => ?_) (fun h5 => ?_)
      · have h5 := of_decide_eq_true h5
        rw [if_neg (by omega)]
        exact ⟨rfl, e1⟩
      · have h5 := of_decide_eq_false h5
        exact again_mk (cs := [(false, [.int .u64]), (false, [.invalid]), (false, [.bool]), (false, [.int .u64]), (false, [.int .i64])]) (n4, v5, false, (valB 16 (s.data.toList.take (k + 1)) : Int), (k : Int) + 1, ()) (s.size - (k + 1)) rfl (by omega) (congrArg (fun z => [Value.int .u64 n4, v5, .bool false, .int .u64 (valB 16 (s.data.toList.take (k + 1)) : Int), .int .i64 z]) hw5)
          ⟨rfl, rfl, k + 1, (show ((k : Int) + 1) = ((k + 1 : Nat) : Int) from by omega), rfl, by omega, rfl, by omega⟩
    · have h9 : ¬ c ≤ 57 := of_decide_eq_false h9
      have hlo := hlo (by omega) (by omega)
      refine call_int hlo ?_
      refine cond_t (show decide (97 ≤ c) = true from decide_eq_true (by omega)) ?_
      refine call_int hlo ?_
      refine cond_t (show decide (c ≤ 122) = true from decide_eq_true (by omega)) ?_
      refine call_int hlo ?_
      have hw0 : IntKind.wrap .u8 (c - 97) = c - 97 := wrap_u8 (by omega) (by omega)
      have hw1 : IntKind.wrap .u8 (c - 97 + 10) = d := by rw [wrap_u8 (by omega) (by omega)]; omega
      rw [hw0, hw1, hw2]
      refine cond_f (show decide ((d : Int) ≥ 16) = false from decide_eq_false (by omega)) ?_
      refine cond_f (show decide ((valB 16 (s.data.toList.take k) : Int) ≥ 1152921504606846976) = false from decide_eq_false (by omega)) ?_
      rw [hw3, hw4]
      refine cond_f (decide_eq_false (by omega)) ?_
      refine cond_mk (fun h5 => ?_) (fun h5 => ?_)
      · have h5 := of_decide_eq_true h5
        rw [if_neg (by omega)]
        exact ⟨rfl, e1⟩
      · have h5 := of_decide_eq_false h5
        exact again_mk (cs := [(false, [.int .u64]), (false, [.invalid]), (false, [.bool]), (false, [.int .u64]), (false, [.int .i64])]) (n4, v5, false, (valB 16 (s.data.toList.take (k + 1)) : Int), (k : Int) + 1, ()) (s.size - (k + 1)) rfl (by omega) (congrArg (fun z => [Value.int .u64 n4, v5, .bool false, .int .u64 (valB 16 (s.data.toList.take (k + 1)) : Int), .int .i64 z]) hw5)
          ⟨rfl, rfl, k + 1, (show ((k : Int) + 1) = ((k + 1 : Nat) : Int) from by omega), rfl, by omega, rfl, by omega⟩
  · have hge : ¬ (k : Int) < s.size := of_decide_eq_false hb
    have hk : k = s.data.toList.length := by omega
    rw [hk, List.take_length] at hv
    refine cond_f rfl ?_
    rw [if_pos hv]
    refine ⟨?_, e1⟩
    show Value.tuple #[.int .u64 (valB 16 (s.data.toList.take k) : Int), .nilIface] = _
    rw [hk, List.take_length]
end Go.Sx

set_option linter.unusedVariables false
set_option maxRecDepth 100000
namespace Go.Sx
open Go.Proofs
theorem cmpN (h : Hp) (K : Value → Hp → Prop) : semW Tryd.prog (cmpS .neq 133 (.tmp 17) (.const .nilIface) .nilIface .nilIface) h K = K (.bool false) h := by kernel_rfl
theorem cmpN1 (h : Hp) (K : Value → Hp → Prop) : semW Tryd.prog (cmpS .neq 133 (.tmp 17) (.const .nilIface) (.iface 157 (.int .i64 1)) .nilIface) h K = K (.bool true) h := by kernel_rfl
theorem cmpN2 (h : Hp) (K : Value → Hp → Prop) : semW Tryd.prog (cmpS .neq 133 (.tmp 17) (.const .nilIface) (.iface 157 (.int .i64 2)) .nilIface) h K = K (.bool true) h := by kernel_rfl
theorem cmpM (h : Hp) (K : Value → Hp → Prop) : semW Tryd.prog (cmpS .neq 133 (.tmp 37) (.const .nilIface) .nilIface .nilIface) h K = K (.bool false) h := by kernel_rfl
theorem cmpM1 (a : Addr) (h : Hp) (K : Value → Hp → Prop) : semW Tryd.prog (cmpS .neq 133 (.tmp 37) (.const .nilIface) (.iface 159 (.pointer (some a))) .nilIface) h K = K (.bool true) h := by kernel_rfl
def okB (b : Nat) (l : List UInt8) : Prop := l ≠ [] ∧ valB b l < 4294967296
def puPost (b : Nat) (l : List UInt8) (h : Hp) (v : Value) (h' : Hp) : Prop :=
  ((okB b l ∧ v = .tuple #[.int .u64 (valB b l), .nilIface]) ∨ (¬ okB b l ∧ ∃ n a, v = .tuple #[.int .u64 n, .iface 159 (.pointer (some a))])) ∧ Ext h h'
theorem parseUint10_hc (s : ByteArray) (h : Hp) (hs : s.size ≤ 2 ^ 48) (hl : Laid h) (hd : ∀ i, i < s.size → isDig (s.data.toList.getD i 0) = true) :
    HC Tryd.prog 93 #[.string s, .int .i64 10, .int .i64 32] h (puPost 10 s.data.toList h) := by
  refine hcr_of (args := [.string s, .int .i64 10, .int .i64 32]) mixed Tryd.func93 (by kernel_rfl) (t_strconv_ParseUint_ten_eq s) ?_
  unfold t_strconv_ParseUint_ten
  refine call_of (puTen_hc s h hs hd) ?_
  rintro _ h1 ⟨rfl, e1⟩
  refine ⟨(((puR 10 s.data.toList).1 : Int), (puR 10 s.data.toList).2, ()), rfl, ?_⟩
  show T.sem Tryd.prog (cmpS .neq 133 (.tmp 17) (.const .nilIface) (puR 10 s.data.toList).2 .nilIface) false [(false, [.bool])] _ _ _ _
  by_cases h0 : s.data.toList = []
  · have hr : puR 10 s.data.toList = (0, .iface 157 (.int .i64 2)) := by unfold puR; rw [if_pos h0]
    have hno : ¬ okB 10 s.data.toList := fun ho => ho.1 h0
    rw [hr]
    refine sem_bool (b := true) (fun K' hk => by rw [cmpN2]; exact hk) (cond_t rfl ?_)
    refine call_of (toError_s10_hc s h1 hs (hl.ext e1)) ?_
    rintro _ h2 ⟨⟨a, rfl⟩, e2⟩
    exact ⟨(.iface 159 (.pointer (some a)), ()), rfl, .inr ⟨hno, _, a, rfl⟩, e1.trans e2⟩
  · by_cases hv : valB 10 s.data.toList < 4294967296
    · have hr : puR 10 s.data.toList = (valB 10 s.data.toList, .nilIface) := by unfold puR; rw [if_neg h0, if_pos hv]
      rw [hr]
      refine sem_bool (b := false) (fun K' hk => by rw [cmpN]; exact hk) (cond_f rfl ?_)
      exact ⟨.inl ⟨⟨h0, hv⟩, rfl⟩, e1⟩
    · have hr : puR 10 s.data.toList = (4294967295, .iface 157 (.int .i64 1)) := by unfold puR; rw [if_neg h0, if_neg hv]
      have hno : ¬ okB 10 s.data.toList := fun ho => hv ho.2
      rw [hr]
      refine sem_bool (b := true) (fun K' hk => by rw [cmpN1]; exact hk) (cond_t rfl ?_)
      refine call_of (toError_r10_hc s h1 hs (hl.ext e1)) ?_
      rintro _ h2 ⟨⟨a, rfl⟩, e2⟩
      exact ⟨(.iface 159 (.pointer (some a)), ()), rfl, .inr ⟨hno, _, a, rfl⟩, e1.trans e2⟩
theorem valB16_small : ∀ (l : List UInt8) (n : Nat), (∀ c ∈ l, dv c < 16) → l.foldl (fun n c => n * 16 + dv c) n < (n + 1) * 16 ^ l.length
  | [], n, _ => by simp
  | c :: l, n, hd => by
    rw [List.foldl_cons, List.length_cons, Nat.pow_succ]
    have h1 := valB16_small l (n * 16 + dv c) (fun x hx => hd x (by simp [hx]))
    have h2 := hd c (by simp)
    have h3 : (n * 16 + dv c + 1) * 16 ^ l.length ≤ ((n + 1) * 16) * 16 ^ l.length := Nat.mul_le_mul_right _ (by omega)
    have h4 : ((n + 1) * 16) * 16 ^ l.length = (n + 1) * (16 ^ l.length * 16) := by rw [Nat.mul_assoc, Nat.mul_comm 16]
    omega
theorem parseUint16_hc (s : ByteArray) (h : Hp) (hs : s.size ≤ 8) (hl : Laid h) (hd : ∀ i, i < s.size → isHex (s.data.toList.getD i 0) = true) :
    HC Tryd.prog 93 #[.string s, .int .i64 16, .int .i64 32] h (puPost 16 s.data.toList h) := by
  refine hcr_of (args := [.string s, .int .i64 16, .int .i64 32]) mixed Tryd.func93 (by kernel_rfl) (t_strconv_ParseUint_hex_eq s) ?_
  unfold t_strconv_ParseUint_hex
  have hsz : s.data.toList.length = s.size := by simp
  have hv : valB 16 s.data.toList < 4294967296 := by
    have h1 := valB16_small s.data.toList 0 (fun c hc => by
      obtain ⟨i, hi, rfl⟩ := List.getElem_of_mem hc
      have := hd i (by omega)
      simp only [List.getD, List.getElem?_eq_getElem hi, Option.getD_some] at this
      exact (dv_hex _ this).2.2)
    have h2 : 16 ^ s.data.toList.length ≤ 16 ^ 8 := Nat.pow_le_pow_right (by omega) (by omega)
    have h3 : (16:Nat) ^ 8 = 4294967296 := rfl
    unfold valB
    omega
  refine call_of (puHex_hc s h (by omega) hd) ?_
  rintro _ h1 ⟨rfl, e1⟩
  refine ⟨(((puR 16 s.data.toList).1 : Int), (puR 16 s.data.toList).2, ()), rfl, ?_⟩
  show T.sem Tryd.prog (cmpS .neq 133 (.tmp 17) (.const .nilIface) (puR 16 s.data.toList).2 .nilIface) false [(false, [.bool])] _ _ _ _
  by_cases h0 : s.data.toList = []
  · have hr : puR 16 s.data.toList = (0, .iface 157 (.int .i64 2)) := by unfold puR; rw [if_pos h0]
    have hno : ¬ okB 16 s.data.toList := fun ho => ho.1 h0
    rw [hr]
    refine sem_bool (b := true) (fun K' hk => by rw [cmpN2]; exact hk) (cond_t rfl ?_)
    refine call_of (toError_s16_hc s h1 (by omega) (hl.ext e1)) ?_
    rintro _ h2 ⟨⟨a, rfl⟩, e2⟩
    exact ⟨(.iface 159 (.pointer (some a)), ()), rfl, .inr ⟨hno, _, a, rfl⟩, e1.trans e2⟩
  · have hr : puR 16 s.data.toList = (valB 16 s.data.toList, .nilIface) := by unfold puR; rw [if_neg h0, if_pos hv]
    rw [hr]
    refine sem_bool (b := false) (fun K' hk => by rw [cmpN]; exact hk) (cond_f rfl ?_)
    exact ⟨.inl ⟨⟨h0, hv⟩, rfl⟩, e1⟩
end Go.Sx

set_option linter.unusedVariables false
set_option maxRecDepth 100000
namespace Go.Sx
open Go.Proofs
theorem ext_list (s : ByteArray) (i j : Nat) : (s.extract i j).data.toList = (s.data.toList.drop i).take (j - i) := by
  rw [ByteArray.data_extract, Array.toList_extract, List.extract_eq_take_drop]
theorem ext_size (s : ByteArray) (i j : Nat) : (s.extract i j).size = min j s.size - i := by simp
theorem beq_dec (a b : List UInt8) : (a == b) = decide (a = b) := by
  by_cases h : a = b <;> simp [h]
theorem val16_lt {l : List UInt8} (hl : l.length ≤ 8) (hd : ∀ i, i < l.length → isHex (l.getD i 0) = true) : valB 16 l < 4294967296 := by
  have h1 := valB16_small l 0 (fun c hc => by
    obtain ⟨i, hi, rfl⟩ := List.getElem_of_mem hc
    have := hd i hi
    simp only [List.getD, List.getElem?_eq_getElem hi, Option.getD_some] at this
    exact (dv_hex _ this).2.2)
  have h2 : 16 ^ l.length ≤ 16 ^ 8 := Nat.pow_le_pow_right (by omega) (by omega)
  have h3 : (16:Nat) ^ 8 = 4294967296 := rfl
  unfold valB
  omega
theorem getD_take {l : List UInt8} {n i : Nat} (hi : i < n) : (l.take n).getD i 0 = l.getD i 0 := by
  rw [List.getD_eq_getElem?_getD, List.getElem?_take, if_pos hi, ← List.getD_eq_getElem?_getD]
theorem hasPrefix0_hc (s t : ByteArray) (h : Hp) : HCp Tryd.prog 107 [.string s, .string t] h (.bool (decide (s.data.toList.take t.size = t.data.toList))) := by
  refine hcp_of mixed Tryd.func107 (by kernel_rfl) (t_internal_stringslite_HasPrefix_eq s t) ?_
  unfold t_internal_stringslite_HasPrefix
  have hsz : s.data.toList.length = s.size := by simp
  have htz : t.data.toList.length = t.size := by simp
  refine cond_mk (fun h1 => ?_) (fun h1 => ?_)
  · have h1 := of_decide_eq_true h1
    refine need_of ⟨by omega, by omega, by omega⟩ ⟨?_, rfl⟩
    congr 1
    rw [ByteArray.toList_eq, ByteArray.toList_eq, ext_list, beq_dec, List.drop_zero, show Int.toNat (t.size : Int) - 0 = t.size by omega]
  · have h1 := of_decide_eq_false h1
    refine ⟨?_, rfl⟩
    congr 1
    symm
    refine decide_eq_false fun he => ?_
    have := congrArg List.length he
    rw [List.length_take] at this
    omega
theorem hasPrefix_hc (s t : ByteArray) (h : Hp) : HCp Tryd.prog 92 [.string s, .string t] h (.bool (decide (s.data.toList.take t.size = t.data.toList))) := by
  refine hcp_of mixed Tryd.func92 (by kernel_rfl) (t_strings_HasPrefix_eq s t) ?_
  exact call_bool (hasPrefix0_hc s t h) ⟨rfl, rfl⟩
def hexesL : List UInt8 := [48, 49, 50, 51, 52, 53, 54, 55, 56, 57, 97, 98, 99, 100, 101, 102]
theorem hexes_is (c : UInt8) : hexesL.contains c = isHex c := all_bytes (fun c => hexesL.contains c) isHex (by decide +kernel) c
/-- The number that a text begins with: how many bytes, and what they say; no bytes: there is none. -/
def numL (l : List UInt8) : Nat × Nat :=
  if l.take 2 = [48, 120] then
    (if 8 < rowN (l.drop 2) hexesL ∨ rowN (l.drop 2) hexesL = 0 then (0, 0) else (2 + rowN (l.drop 2) hexesL, valB 16 ((l.drop 2).take (rowN (l.drop 2) hexesL))))
  else
    (if (1 < rowN l digitsL ∧ l.getD 0 0 = 48) ∨ rowN l digitsL = 0 ∨ 4294967296 ≤ valB 10 (l.take (rowN l digitsL)) then (0, 0) else (rowN l digitsL, valB 10 (l.take (rowN l digitsL))))
theorem rowN_get {s set : List UInt8} {i : Nat} (hi : i < rowN s set) : set.contains (s.getD i 0) = true := by
  have hle := rowN_le s set
  exact (rowN_step s set i (by omega) (by omega)).1 hi
theorem number_hc (s : ByteArray) (h : Hp) (hs : s.size ≤ 2 ^ 48) (hl : Laid h) :
    HC Tryd.prog 67 #[.string s] h fun v h' => v = .tuple #[.int .i64 (numL s.data.toList).1, .int .u32 (numL s.data.toList).2] ∧ Ext h h' := by
  refine hcr_of (args := [.string s]) mixed Tryd.func67 (by kernel_rfl) (t_lex_number_eq s) ?_
  unfold t_lex_number numL
  have hsz : s.data.toList.length = s.size := by simp
  have gd : (⟨#[48, 49, 50, 51, 52, 53, 54, 55, 56, 57]⟩ : ByteArray).data.toList = digitsL := rfl
  have gh : (⟨#[48, 49, 50, 51, 52, 53, 54, 55, 56, 57, 97, 98, 99, 100, 101, 102]⟩ : ByteArray).data.toList = hexesL := rfl
  have gp : (⟨#[48, 120]⟩ : ByteArray).data.toList = [48, 120] := rfl
  refine call_int (row_hc s _ h (by omega)) ?_
  rw [gd]
  have hr := rowN_le s.data.toList digitsL
  generalize hn : rowN s.data.toList digitsL = n at hr ⊢
  refine call_bool (hasPrefix_hc s _ h) ?_
  rw [gp]
  refine cond_mk (fun h1 => ?_) (fun h1 => ?_)
  · have h1 : s.data.toList.take 2 = [48, 120] := of_decide_eq_true h1
    rw [if_pos h1]
    have h2 : 2 ≤ s.size := by
      have := congrArg List.length h1
      rw [List.length_take] at this
      simp at this; omega
    refine need_of ⟨by omega, by omega, by omega⟩ ?_
    have he : (s.extract 2 (Int.toNat (s.size : Int))).data.toList = s.data.toList.drop 2 := by
      rw [ext_list]
      exact List.take_of_length_le (by simp)
    refine call_int (row_hc _ _ h (by rw [ext_size]; omega)) ?_
    rw [gh, he]
    have hr2 := rowN_le (s.data.toList.drop 2) hexesL
    have hg2 := fun i => @rowN_get (s.data.toList.drop 2) hexesL i
    rw [List.length_drop] at hr2
    generalize rowN (s.data.toList.drop 2) hexesL = m at hr2 hg2 ⊢
    refine cond_mk (fun h3 => ?_) (fun h3 => ?_)
    · have h3 := of_decide_eq_true h3
      rw [if_pos (.inl (by omega))]
      exact ⟨rfl, Ch.refl _ _⟩
    · have h3 := of_decide_eq_false h3
      have hw : IntKind.wrap .i64 (2 + (m : Int)) = 2 + (m : Int) := wrap_i64 (by omega) (by omega)
      rw [hw]
      refine need_of ⟨by omega, by omega, by omega⟩ ?_
      have ht : Int.toNat (2 + (m : Int)) = 2 + m := by omega
      rw [ht]
      have he2 : (s.extract 2 (2 + m)).data.toList = (s.data.toList.drop 2).take m := by
        rw [ext_list, show 2 + m - 2 = m by omega]
      have hsm : (s.extract 2 (2 + m)).size = m := by rw [ext_size]; omega
      refine call_of (parseUint16_hc _ h (by omega) hl (fun i hi => ?_)) ?_
      · rw [hsm] at hi
        have := hg2 i hi
        rw [hexes_is] at this
        rw [he2]
        rw [getD_take hi]
        exact this
      · rintro v h' ⟨hv, e1⟩
        rw [he2] at hv
        rcases hv with ⟨ho, rfl⟩ | ⟨hno, nn, a, rfl⟩
        · have hm0 : m ≠ 0 := fun hm => ho.1 (by rw [hm]; rfl)
          refine ⟨((valB 16 ((s.data.toList.drop 2).take m) : Int), .nilIface, ()), rfl, ?_⟩
          refine sem_bool (b := false) (fun K' hk => by rw [cmpM]; exact hk) (cond_f rfl ?_)
          rw [if_neg (by omega)]
          have := ho.2
          refine ⟨?_, e1⟩
          rw [show IntKind.wrap .u32 (valB 16 ((s.data.toList.drop 2).take m) : Int) = (valB 16 ((s.data.toList.drop 2).take m) : Int) from wrap_u32 (by omega) (by omega)]
          simp
        · refine ⟨(nn, .iface 159 (.pointer (some a)), ()), rfl, ?_⟩
          refine sem_bool (b := true) (fun K' hk => by rw [cmpM1]; exact hk) (cond_t rfl ?_)
          have hm0 : m = 0 := by
            rcases Nat.eq_zero_or_pos m with hm | hm
            · exact hm
            · refine (hno ⟨fun hh => ?_, ?_⟩).elim
              · have := congrArg List.length hh
                rw [List.length_take, List.length_drop] at this
                simp at this; omega
              · refine val16_lt (by rw [List.length_take]; omega) (fun i hi => ?_)
                rw [List.length_take] at hi
                rw [getD_take (by omega), ← hexes_is]
                exact hg2 i (by omega)
          rw [if_pos (.inr hm0)]
          exact ⟨rfl, e1⟩
  · have h1 : ¬ s.data.toList.take 2 = [48, 120] := of_decide_eq_false h1
    rw [if_neg h1]
    have hg := fun i => @rowN_get s.data.toList digitsL i
    rw [hn] at hg
    have hw : IntKind.wrap .i64 (0 + (n : Int)) = (n : Int) := by rw [Int.zero_add]; exact wrap_i64 (by omega) (by omega)
    have he2 : (s.extract 0 n).data.toList = s.data.toList.take n := by rw [ext_list, List.drop_zero, Nat.sub_zero]
    have hsm : (s.extract 0 n).size = n := by rw [ext_size]; omega
    have hp := parseUint10_hc (s.extract 0 n) h (by omega) hl (fun i hi => by
      rw [hsm] at hi
      rw [he2, getD_take hi, ← digits_is]
      exact hg i hi)
    have main : ¬ (1 < n ∧ s.data.toList.getD 0 0 = 48) → T.need (((0 : Int) ≤ (0 : Int)) ∧ (((0 : Int) ≤ (IntKind.wrap .i64 ((0 : Int) + n))) ∧ ((IntKind.wrap .i64 ((0 : Int) + n)) ≤ (s.size : Int)))) (
        T.call Tryd.prog 93 [.string (ByteArray.extract s 0 (Int.toNat (IntKind.wrap .i64 ((0 : Int) + n)))), .int .i64 (10 : Int), .int .i64 (32 : Int)] true [(false, [.int .u64]), (false, [.interface #[("Error", 147)]])] <| fun (n3 : Int) (v4 : Value) =>
        T.sem Tryd.prog (Sx.cmpS (BinOp.neq) 133 (Operand.tmp 37) (Operand.const Value.nilIface) v4 .nilIface) false [(false, [.bool])] <| fun (b5 : Bool) =>
        cond b5
         (T.ret (.tuple #[.int .i64 (0 : Int), .int .u32 (0 : Int)]))
         (T.ret (.tuple #[.int .i64 (IntKind.wrap .i64 ((0 : Int) + n)), .int .u32 (IntKind.wrap .u32 n3)]))) []
        (fun v h' => v = .tuple #[.int .i64 ((if (1 < n ∧ s.data.toList.getD 0 0 = 48) ∨ n = 0 ∨ 4294967296 ≤ valB 10 (s.data.toList.take n) then (0, 0) else (n, valB 10 (s.data.toList.take n)) : Nat × Nat).1 : Int), .int .u32 ((if (1 < n ∧ s.data.toList.getD 0 0 = 48) ∨ n = 0 ∨ 4294967296 ≤ valB 10 (s.data.toList.take n) then (0, 0) else (n, valB 10 (s.data.toList.take n)) : Nat × Nat).2 : Int)] ∧ Ext h h') h := by
      intro hz
      rw [hw]
      refine need_of ⟨by omega, by omega, by omega⟩ ?_
      rw [show Int.toNat (n : Int) = n by omega]
      refine call_of hp ?_
      rintro v h' ⟨hv, e1⟩
      rw [he2] at hv
      have hnil : s.data.toList.take n = [] ↔ n = 0 := by
        constructor
        · intro hh
          have := congrArg List.length hh
          rw [List.length_take, Nat.min_eq_left (by omega)] at this
          exact this
        · intro hh; rw [hh]; rfl
      rcases hv with ⟨ho, rfl⟩ | ⟨hno, nn, a, rfl⟩
      · have h5 : n ≠ 0 := fun hh => ho.1 (hnil.2 hh)
        have h6 := ho.2
        refine ⟨((valB 10 (s.data.toList.take n) : Int), .nilIface, ()), rfl, ?_⟩
        refine sem_bool (b := false) (fun K' hk => by rw [cmpM]; exact hk) (cond_f rfl ?_)
        rw [if_neg (by intro hh; rcases hh with hh | hh | hh <;> first | exact hz hh | omega)]
        refine ⟨?_, e1⟩
        rw [show IntKind.wrap .u32 (valB 10 (s.data.toList.take n) : Int) = (valB 10 (s.data.toList.take n) : Int) from wrap_u32 (by omega) (by omega)]
      · refine ⟨(nn, .iface 159 (.pointer (some a)), ()), rfl, ?_⟩
        refine sem_bool (b := true) (fun K' hk => by rw [cmpM1]; exact hk) (cond_t rfl ?_)
        have h7 : n = 0 ∨ 4294967296 ≤ valB 10 (s.data.toList.take n) := by
          by_cases h8 : n = 0
          · exact .inl h8
          · refine .inr ?_
            rcases Nat.lt_or_ge (valB 10 (s.data.toList.take n)) 4294967296 with h9 | h9
            · exact (hno ⟨fun hh => h8 (hnil.1 hh), h9⟩).elim
            · exact h9
        rw [if_pos (.inr h7)]
        exact ⟨rfl, e1⟩
    refine cond_mk (fun h3 => ?_) (fun h3 => ?_)
    · have h3 := of_decide_eq_true h3
      refine need_of ⟨by omega, by omega⟩ ?_
      have e0 : sbyte s 0 = cN (s.data.toList.getD 0 0) := sbyte_cN s 0
      rw [e0]
      refine cond_mk (fun h4 => ?_) (fun h4 => ?_)
      · have h4 := eq_of_beq h4
        have h5 : s.data.toList.getD 0 0 = 48 := by
          unfold cN at h4
          exact UInt8.toNat_inj.1 (by show _ = 48; omega)
        rw [if_pos (.inl ⟨by omega, h5⟩)]
        exact ⟨rfl, Ch.refl _ _⟩
      · have h4 := ne_of_beq_false h4
        exact main fun hh => h4 (by rw [hh.2]; rfl)
    · have h3 := of_decide_eq_false h3
      exact main fun hh => h3 (by omega)
end Go.Sx
