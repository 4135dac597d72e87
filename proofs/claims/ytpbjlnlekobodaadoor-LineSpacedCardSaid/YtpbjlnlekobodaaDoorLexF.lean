/- What HasPrefix and number answer. Condition: as before. -/
import Derived.Test.YtpbjlnlekobodaaDoorLexE
set_option linter.unusedVariables false
set_option linter.unusedSimpArgs false
set_option linter.deprecated false
set_option maxRecDepth 100000
namespace Go.Sx
open Go.Proofs
theorem ext_list (s : ByteArray) (i j : Nat) : (s.extract i j).data.toList = (s.data.toList.drop i).take (j - i) := by
  rw [ByteArray.data_extract, Array.toList_extract, List.extract_eq_take_drop]
theorem ext_size (s : ByteArray) (i j : Nat) : (s.extract i j).size = min j s.size - i := by simp
theorem beq_dec (a b : List UInt8) : (a == b) = decide (a = b) := by
  by_cases h : a = b <;> simp [h]
theorem val16_lt {l : List UInt8} (hl : l.length ≤ 8) (hd : ∀ i, i < l.length → isHex (l.getD i 0) = true) : valB 16 l < 4294967296 := by
  have h1 := valB16_small l 0 (fun c hc => by
    obtain ⟨i, hi, rfl⟩ := List.getElem_of_mem hc
    have := hd i hi
    simp only [List.getD, List.getElem?_eq_getElem hi, Option.getD_some] at this
    exact (dv_hex _ this).2.2)
  have h2 : 16 ^ l.length ≤ 16 ^ 8 := Nat.pow_le_pow_right (by omega) (by omega)
  have h3 : (16:Nat) ^ 8 = 4294967296 := rfl
  unfold valB
  omega
theorem getD_take {l : List UInt8} {n i : Nat} (hi : i < n) : (l.take n).getD i 0 = l.getD i 0 := by
  rw [List.getD_eq_getElem?_getD, List.getElem?_take, if_pos hi, ← List.getD_eq_getElem?_getD]
theorem hasPrefix0_hc (s t : ByteArray) (h : Hp) : HCp Tryd.prog 107 [.string s, .string t] h (.bool (decide (s.data.toList.take t.size = t.data.toList))) := by
  refine hcp_of mixed Tryd.func107 (by kernel_rfl) (t_internal_stringslite_HasPrefix_eq s t) ?_
  unfold t_internal_stringslite_HasPrefix
  have hsz : s.data.toList.length = s.size := by simp
  have htz : t.data.toList.length = t.size := by simp
  refine cond_mk (fun h1 => ?_) (fun h1 => ?_)
  · have h1 := of_decide_eq_true h1
    refine need_of ⟨by omega, by omega, by omega⟩ ⟨?_, rfl⟩
    congr 1
    rw [ByteArray.toList_eq, ByteArray.toList_eq, ext_list, beq_dec, List.drop_zero, show Int.toNat (t.size : Int) - 0 = t.size by omega]
  · have h1 := of_decide_eq_false h1
    refine ⟨?_, rfl⟩
    congr 1
    symm
    refine decide_eq_false fun he => ?_
    have := congrArg List.length he
    rw [List.length_take] at this
    omega
theorem hasPrefix_hc (s t : ByteArray) (h : Hp) : HCp Tryd.prog 92 [.string s, .string t] h (.bool (decide (s.data.toList.take t.size = t.data.toList))) := by
  refine hcp_of mixed Tryd.func92 (by kernel_rfl) (t_strings_HasPrefix_eq s t) ?_
  exact call_bool (hasPrefix0_hc s t h) ⟨rfl, rfl⟩
def hexesL : List UInt8 := [48, 49, 50, 51, 52, 53, 54, 55, 56, 57, 97, 98, 99, 100, 101, 102]
theorem hexes_is (c : UInt8) : hexesL.contains c = isHex c := all_bytes (fun c => hexesL.contains c) isHex (by decide +kernel) c
/-- The number that a text begins with: how many bytes, and what they say; no bytes: there is none. -/
def numL (l : List UInt8) : Nat × Nat :=
  if l.take 2 = [48, 120] then
    (if 8 < rowN (l.drop 2) hexesL ∨ rowN (l.drop 2) hexesL = 0 then (0, 0) else (2 + rowN (l.drop 2) hexesL, valB 16 ((l.drop 2).take (rowN (l.drop 2) hexesL))))
  else
    (if (1 < rowN l digitsL ∧ l.getD 0 0 = 48) ∨ rowN l digitsL = 0 ∨ 4294967296 ≤ valB 10 (l.take (rowN l digitsL)) then (0, 0) else (rowN l digitsL, valB 10 (l.take (rowN l digitsL))))
theorem rowN_get {s set : List UInt8} {i : Nat} (hi : i < rowN s set) : set.contains (s.getD i 0) = true := by
  have hle := rowN_le s set
  exact (rowN_step s set i (by omega) (by omega)).1 hi
theorem number_hc (s : ByteArray) (h : Hp) (hs : s.size ≤ 2 ^ 48) (hl : Laid h) :
    HC Tryd.prog 67 #[.string s] h fun v h' => v = .tuple #[.int .i64 (numL s.data.toList).1, .int .u32 (numL s.data.toList).2] ∧ Ext h h' := by
  refine hcr_of (args := [.string s]) mixed Tryd.func67 (by kernel_rfl) (t_lex_number_eq s) ?_
  unfold t_lex_number numL
  have hsz : s.data.toList.length = s.size := by simp
  have gd : (⟨#[48, 49, 50, 51, 52, 53, 54, 55, 56, 57]⟩ : ByteArray).data.toList = digitsL := rfl
  have gh : (⟨#[48, 49, 50, 51, 52, 53, 54, 55, 56, 57, 97, 98, 99, 100, 101, 102]⟩ : ByteArray).data.toList = hexesL := rfl
  have gp : (⟨#[48, 120]⟩ : ByteArray).data.toList = [48, 120] := rfl
  refine call_int (row_hc s _ h (by omega)) ?_
  rw [gd]
  have hr := rowN_le s.data.toList digitsL
  generalize hn : rowN s.data.toList digitsL = n at hr ⊢
  refine call_bool (hasPrefix_hc s _ h) ?_
  rw [gp]
  refine cond_mk (fun h1 => ?_) (fun h1 => ?_)
  · have h1 : s.data.toList.take 2 = [48, 120] := of_decide_eq_true h1
    rw [if_pos h1]
    have h2 : 2 ≤ s.size := by
      have := congrArg List.length h1
      rw [List.length_take] at this
      simp at this; omega
    refine need_of ⟨by omega, by omega, by omega⟩ ?_
    have he : (s.extract 2 (Int.toNat (s.size : Int))).data.toList = s.data.toList.drop 2 := by
      rw [ext_list]
      exact List.take_of_length_le (by simp)
    refine call_int (row_hc _ _ h (by rw [ext_size]; omega)) ?_
    rw [gh, he]
    have hr2 := rowN_le (s.data.toList.drop 2) hexesL
    have hg2 := fun i => @rowN_get (s.data.toList.drop 2) hexesL i
    rw [List.length_drop] at hr2
    generalize rowN (s.data.toList.drop 2) hexesL = m at hr2 hg2 ⊢
    refine cond_mk (fun h3 => ?_) (fun h3 => ?_)
    · have h3 := of_decide_eq_true h3
      rw [if_pos (.inl (by omega))]
      exact ⟨rfl, Ch.refl _ _⟩
    · have h3 := of_decide_eq_false h3
      have hw : IntKind.wrap .i64 (2 + (m : Int)) = 2 + (m : Int) := wrap_i64 (by omega) (by omega)
      rw [hw]
      refine need_of ⟨by omega, by omega, by omega⟩ ?_
      have ht : Int.toNat (2 + (m : Int)) = 2 + m := by omega
      rw [ht]
      have he2 : (s.extract 2 (2 + m)).data.toList = (s.data.toList.drop 2).take m := by
        rw [ext_list, show 2 + m - 2 = m by omega]
      have hsm : (s.extract 2 (2 + m)).size = m := by rw [ext_size]; omega
      refine call_of (parseUint16_hc _ h (by omega) hl (fun i hi => ?_)) ?_
      · rw [hsm] at hi
        have := hg2 i hi
        rw [hexes_is] at this
        rw [he2]
        rw [getD_take hi]
        exact this
      · rintro v h' ⟨hv, e1⟩
        rw [he2] at hv
        rcases hv with ⟨ho, rfl⟩ | ⟨hno, nn, a, rfl⟩
        · have hm0 : m ≠ 0 := fun hm => ho.1 (by rw [hm]; rfl)
          refine ⟨((valB 16 ((s.data.toList.drop 2).take m) : Int), .nilIface, ()), rfl, ?_⟩
          refine sem_bool (b := false) (fun K' hk => by rw [cmpM]; exact hk) (cond_f rfl ?_)
          rw [if_neg (by omega)]
          have := ho.2
          refine ⟨?_, e1⟩
          rw [show IntKind.wrap .u32 (valB 16 ((s.data.toList.drop 2).take m) : Int) = (valB 16 ((s.data.toList.drop 2).take m) : Int) from wrap_u32 (by omega) (by omega)]
          simp
        · refine ⟨(nn, .iface 159 (.pointer (some a)), ()), rfl, ?_⟩
          refine sem_bool (b := true) (fun K' hk => by rw [cmpM1]; exact hk) (cond_t rfl ?_)
          have hm0 : m = 0 := by
            rcases Nat.eq_zero_or_pos m with hm | hm
            · exact hm
            · refine (hno ⟨fun hh => ?_, ?_⟩).elim
              · have := congrArg List.length hh
                rw [List.length_take, List.length_drop] at this
                simp at this; omega
              · refine val16_lt (by rw [List.length_take]; omega) (fun i hi => ?_)
                rw [List.length_take] at hi
                rw [getD_take (by omega), ← hexes_is]
                exact hg2 i (by omega)
          rw [if_pos (.inr hm0)]
          exact ⟨rfl, e1⟩
  · have h1 : ¬ s.data.toList.take 2 = [48, 120] := of_decide_eq_false h1
    rw [if_neg h1]
    have hg := fun i => @rowN_get s.data.toList digitsL i
    rw [hn] at hg
    have hw : IntKind.wrap .i64 (0 + (n : Int)) = (n : Int) := by rw [Int.zero_add]; exact wrap_i64 (by omega) (by omega)
    have he2 : (s.extract 0 n).data.toList = s.data.toList.take n := by rw [ext_list, List.drop_zero, Nat.sub_zero]
    have hsm : (s.extract 0 n).size = n := by rw [ext_size]; omega
    have hp := parseUint10_hc (s.extract 0 n) h (by omega) hl (fun i hi => by
      rw [hsm] at hi
      rw [he2, getD_take hi, ← digits_is]
      exact hg i hi)
    have main : ¬ (1 < n ∧ s.data.toList.getD 0 0 = 48) → T.need (((0 : Int) ≤ (0 : Int)) ∧ (((0 : Int) ≤ (IntKind.wrap .i64 ((0 : Int) + n))) ∧ ((IntKind.wrap .i64 ((0 : Int) + n)) ≤ (s.size : Int)))) (
        T.call Tryd.prog 93 [.string (ByteArray.extract s 0 (Int.toNat (IntKind.wrap .i64 ((0 : Int) + n)))), .int .i64 (10 : Int), .int .i64 (32 : Int)] true [(false, [.int .u64]), (false, [.interface #[("Error", 147)]])] <| fun (n3 : Int) (v4 : Value) =>
        T.sem Tryd.prog (Sx.cmpS (BinOp.neq) 133 (Operand.tmp 37) (Operand.const Value.nilIface) v4 .nilIface) false [(false, [.bool])] <| fun (b5 : Bool) =>
        cond b5
         (T.ret (.tuple #[.int .i64 (0 : Int), .int .u32 (0 : Int)]))
         (T.ret (.tuple #[.int .i64 (IntKind.wrap .i64 ((0 : Int) + n)), .int .u32 (IntKind.wrap .u32 n3)]))) []
        (fun v h' => v = .tuple #[.int .i64 ((if (1 < n ∧ s.data.toList.getD 0 0 = 48) ∨ n = 0 ∨ 4294967296 ≤ valB 10 (s.data.toList.take n) then (0, 0) else (n, valB 10 (s.data.toList.take n)) : Nat × Nat).1 : Int), .int .u32 ((if (1 < n ∧ s.data.toList.getD 0 0 = 48) ∨ n = 0 ∨ 4294967296 ≤ valB 10 (s.data.toList.take n) then (0, 0) else (n, valB 10 (s.data.toList.take n)) : Nat × Nat).2 : Int)] ∧ Ext h h') h := by
      intro hz
      rw [hw]
      refine need_of ⟨by omega, by omega, by omega⟩ ?_
      rw [show Int.toNat (n : Int) = n by omega]
      refine call_of hp ?_
      rintro v h' ⟨hv, e1⟩
      rw [he2] at hv
      have hnil : s.data.toList.take n = [] ↔ n = 0 := by
        constructor
        · intro hh
          have := congrArg List.length hh
          rw [List.length_take, Nat.min_eq_left (by omega)] at this
          exact this
        · intro hh; rw [hh]; rfl
      rcases hv with ⟨ho, rfl⟩ | ⟨hno, nn, a, rfl⟩
      · have h5 : n ≠ 0 := fun hh => ho.1 (hnil.2 hh)
        have h6 := ho.2
        refine ⟨((valB 10 (s.data.toList.take n) : Int), .nilIface, ()), rfl, ?_⟩
        refine sem_bool (b := false) (fun K' hk => by rw [cmpM]; exact hk) (cond_f rfl ?_)
        rw [if_neg (by intro hh; rcases hh with hh | hh | hh <;> first | exact hz hh | omega)]
        refine ⟨?_, e1⟩
        rw [show IntKind.wrap .u32 (valB 10 (s.data.toList.take n) : Int) = (valB 10 (s.data.toList.take n) : Int) from wrap_u32 (by omega) (by omega)]
      · refine ⟨(nn, .iface 159 (.pointer (some a)), ()), rfl, ?_⟩
        refine sem_bool (b := true) (fun K' hk => by rw [cmpM1]; exact hk) (cond_t rfl ?_)
        have h7 : n = 0 ∨ 4294967296 ≤ valB 10 (s.data.toList.take n) := by
          by_cases h8 : n = 0
          · exact .inl h8
          · refine .inr ?_
            rcases Nat.lt_or_ge (valB 10 (s.data.toList.take n)) 4294967296 with h9 | h9
            · exact (hno ⟨fun hh => h8 (hnil.1 hh), h9⟩).elim
            · exact h9
        rw [if_pos (.inr h7)]
        exact ⟨rfl, e1⟩
    refine cond_mk (fun h3 => ?_) (fun h3 => ?_)
    · have h3 := of_decide_eq_true h3
      refine need_of ⟨by omega, by omega⟩ ?_
      have e0 : sbyte s 0 = cN (s.data.toList.getD 0 0) := sbyte_cN s 0
      rw [e0]
      refine cond_mk (fun h4 => ?_) (fun h4 => ?_)
      · have h4 := eq_of_beq h4
        have h5 : s.data.toList.getD 0 0 = 48 := by
          unfold cN at h4
          exact UInt8.toNat_inj.1 (by show _ = 48; omega)
        rw [if_pos (.inl ⟨by omega, h5⟩)]
        exact ⟨rfl, Ch.refl _ _⟩
      · have h4 := ne_of_beq_false h4
        exact main fun hh => h4 (by rw [hh.2]; rfl)
    · have h3 := of_decide_eq_false h3
      exact main fun hh => h3 (by omega)
end Go.Sx
