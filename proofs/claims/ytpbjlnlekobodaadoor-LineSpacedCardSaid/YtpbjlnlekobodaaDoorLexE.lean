/- What strconv.ParseUint answers at rows of digits. Condition: as before. -/
import Derived.Test.YtpbjlnlekobodaaDoorLexD
set_option linter.unusedVariables false
set_option linter.unusedSimpArgs false
set_option linter.deprecated false
set_option maxRecDepth 100000
namespace Go.Sx
open Go.Proofs
theorem cmpN (h : Hp) (K : Value → Hp → Prop) : semW Tryd.prog (cmpS .neq 133 (.tmp 17) (.const .nilIface) .nilIface .nilIface) h K = K (.bool false) h := by kernel_rfl
theorem cmpN1 (h : Hp) (K : Value → Hp → Prop) : semW Tryd.prog (cmpS .neq 133 (.tmp 17) (.const .nilIface) (.iface 157 (.int .i64 1)) .nilIface) h K = K (.bool true) h := by kernel_rfl
theorem cmpN2 (h : Hp) (K : Value → Hp → Prop) : semW Tryd.prog (cmpS .neq 133 (.tmp 17) (.const .nilIface) (.iface 157 (.int .i64 2)) .nilIface) h K = K (.bool true) h := by kernel_rfl
theorem cmpM (h : Hp) (K : Value → Hp → Prop) : semW Tryd.prog (cmpS .neq 133 (.tmp 37) (.const .nilIface) .nilIface .nilIface) h K = K (.bool false) h := by kernel_rfl
theorem cmpM1 (a : Addr) (h : Hp) (K : Value → Hp → Prop) : semW Tryd.prog (cmpS .neq 133 (.tmp 37) (.const .nilIface) (.iface 159 (.pointer (some a))) .nilIface) h K = K (.bool true) h := by kernel_rfl
def okB (b : Nat) (l : List UInt8) : Prop := l ≠ [] ∧ valB b l < 4294967296
def puPost (b : Nat) (l : List UInt8) (h : Hp) (v : Value) (h' : Hp) : Prop :=
  ((okB b l ∧ v = .tuple #[.int .u64 (valB b l), .nilIface]) ∨ (¬ okB b l ∧ ∃ n a, v = .tuple #[.int .u64 n, .iface 159 (.pointer (some a))])) ∧ Ext h h'
theorem parseUint10_hc (s : ByteArray) (h : Hp) (hs : s.size ≤ 2 ^ 48) (hl : Laid h) (hd : ∀ i, i < s.size → isDig (s.data.toList.getD i 0) = true) :
    HC Tryd.prog 93 #[.string s, .int .i64 10, .int .i64 32] h (puPost 10 s.data.toList h) := by
  refine hcr_of (args := [.string s, .int .i64 10, .int .i64 32]) mixed Tryd.func93 (by kernel_rfl) (t_strconv_ParseUint_ten_eq s) ?_
  unfold t_strconv_ParseUint_ten
  refine call_of (puTen_hc s h hs hd) ?_
  rintro _ h1 ⟨rfl, e1⟩
  refine ⟨(((puR 10 s.data.toList).1 : Int), (puR 10 s.data.toList).2, ()), rfl, ?_⟩
  show T.sem Tryd.prog (cmpS .neq 133 (.tmp 17) (.const .nilIface) (puR 10 s.data.toList).2 .nilIface) false [(false, [.bool])] _ _ _ _
  by_cases h0 : s.data.toList = []
  · have hr : puR 10 s.data.toList = (0, .iface 157 (.int .i64 2)) := by unfold puR; rw [if_pos h0]
    have hno : ¬ okB 10 s.data.toList := fun ho => ho.1 h0
    rw [hr]
    refine sem_bool (b := true) (fun K' hk => by rw [cmpN2]; exact hk) (cond_t rfl ?_)
    refine call_of (toError_s10_hc s h1 hs (hl.ext e1)) ?_
    rintro _ h2 ⟨⟨a, rfl⟩, e2⟩
    exact ⟨(.iface 159 (.pointer (some a)), ()), rfl, .inr ⟨hno, _, a, rfl⟩, e1.trans e2⟩
  · by_cases hv : valB 10 s.data.toList < 4294967296
    · have hr : puR 10 s.data.toList = (valB 10 s.data.toList, .nilIface) := by unfold puR; rw [if_neg h0, if_pos hv]
      rw [hr]
      refine sem_bool (b := false) (fun K' hk => by rw [cmpN]; exact hk) (cond_f rfl ?_)
      exact ⟨.inl ⟨⟨h0, hv⟩, rfl⟩, e1⟩
    · have hr : puR 10 s.data.toList = (4294967295, .iface 157 (.int .i64 1)) := by unfold puR; rw [if_neg h0, if_neg hv]
      have hno : ¬ okB 10 s.data.toList := fun ho => hv ho.2
      rw [hr]
      refine sem_bool (b := true) (fun K' hk => by rw [cmpN1]; exact hk) (cond_t rfl ?_)
      refine call_of (toError_r10_hc s h1 hs (hl.ext e1)) ?_
      rintro _ h2 ⟨⟨a, rfl⟩, e2⟩
      exact ⟨(.iface 159 (.pointer (some a)), ()), rfl, .inr ⟨hno, _, a, rfl⟩, e1.trans e2⟩
theorem valB16_small : ∀ (l : List UInt8) (n : Nat), (∀ c ∈ l, dv c < 16) → l.foldl (fun n c => n * 16 + dv c) n < (n + 1) * 16 ^ l.length
  | [], n, _ => by simp
  | c :: l, n, hd => by
    rw [List.foldl_cons, List.length_cons, Nat.pow_succ]
    have h1 := valB16_small l (n * 16 + dv c) (fun x hx => hd x (by simp [hx]))
    have h2 := hd c (by simp)
    have h3 : (n * 16 + dv c + 1) * 16 ^ l.length ≤ ((n + 1) * 16) * 16 ^ l.length := Nat.mul_le_mul_right _ (by omega)
    have h4 : ((n + 1) * 16) * 16 ^ l.length = (n + 1) * (16 ^ l.length * 16) := by rw [Nat.mul_assoc, Nat.mul_comm 16]
    omega
theorem parseUint16_hc (s : ByteArray) (h : Hp) (hs : s.size ≤ 8) (hl : Laid h) (hd : ∀ i, i < s.size → isHex (s.data.toList.getD i 0) = true) :
    HC Tryd.prog 93 #[.string s, .int .i64 16, .int .i64 32] h (puPost 16 s.data.toList h) := by
  refine hcr_of (args := [.string s, .int .i64 16, .int .i64 32]) mixed Tryd.func93 (by kernel_rfl) (t_strconv_ParseUint_hex_eq s) ?_
  unfold t_strconv_ParseUint_hex
  have hsz : s.data.toList.length = s.size := by simp
  have hv : valB 16 s.data.toList < 4294967296 := by
    have h1 := valB16_small s.data.toList 0 (fun c hc => by
      obtain ⟨i, hi, rfl⟩ := List.getElem_of_mem hc
      have := hd i (by omega)
      simp only [List.getD, List.getElem?_eq_getElem hi, Option.getD_some] at this
      exact (dv_hex _ this).2.2)
    have h2 : 16 ^ s.data.toList.length ≤ 16 ^ 8 := Nat.pow_le_pow_right (by omega) (by omega)
    have h3 : (16:Nat) ^ 8 = 4294967296 := rfl
    unfold valB
    omega
  refine call_of (puHex_hc s h (by omega) hd) ?_
  rintro _ h1 ⟨rfl, e1⟩
  refine ⟨(((puR 16 s.data.toList).1 : Int), (puR 16 s.data.toList).2, ()), rfl, ?_⟩
  show T.sem Tryd.prog (cmpS .neq 133 (.tmp 17) (.const .nilIface) (puR 16 s.data.toList).2 .nilIface) false [(false, [.bool])] _ _ _ _
  by_cases h0 : s.data.toList = []
  · have hr : puR 16 s.data.toList = (0, .iface 157 (.int .i64 2)) := by unfold puR; rw [if_pos h0]
    have hno : ¬ okB 16 s.data.toList := fun ho => ho.1 h0
    rw [hr]
    refine sem_bool (b := true) (fun K' hk => by rw [cmpN2]; exact hk) (cond_t rfl ?_)
    refine call_of (toError_s16_hc s h1 (by omega) (hl.ext e1)) ?_
    rintro _ h2 ⟨⟨a, rfl⟩, e2⟩
    exact ⟨(.iface 159 (.pointer (some a)), ()), rfl, .inr ⟨hno, _, a, rfl⟩, e1.trans e2⟩
  · have hr : puR 16 s.data.toList = (valB 16 s.data.toList, .nilIface) := by unfold puR; rw [if_neg h0, if_pos hv]
    rw [hr]
    refine sem_bool (b := false) (fun K' hk => by rw [cmpN]; exact hk) (cond_f rfl ?_)
    exact ⟨.inl ⟨⟨h0, hv⟩, rfl⟩, e1⟩
end Go.Sx
