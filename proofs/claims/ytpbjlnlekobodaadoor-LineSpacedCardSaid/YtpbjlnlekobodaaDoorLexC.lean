/- What Clone and the errors of strconv answer. Condition: the two error variables hold an interface value; a text has at most 2^48 bytes. -/
import Derived.Test.YtpbjlnlekobodaaDoorLexB
import Derived.Test.YtpbjlnlekobodaaDoorLexU
import Derived.Test.YtpbjlnlekobodaaDoorSxU
set_option linter.unusedVariables false
set_option linter.unusedSimpArgs false
set_option linter.deprecated false
set_option maxRecDepth 100000
namespace Go.Sx
open Go.Proofs
theorem clone_hc (s : ByteArray) (h : Hp) (hs : s.size ≤ 2 ^ 48) : HC Tryd.prog 140 #[.string s] h fun v h' => v = .string s ∧ Ext h h' := by
  refine hcr_of (args := [.string s]) mixed Tryd.func140 (by kernel_rfl) (t_internal_stringslite_Clone_eq s) ?_
  unfold t_internal_stringslite_Clone
  have hsz : s.data.toList.length = s.size := by simp
  refine cond_mk (fun h1 => ?_) (fun h1 => ?_)
  · have h1 := eq_of_beq h1
    have : s = ⟨#[]⟩ := by
      apply ByteArray.ext
      exact Array.eq_empty_of_size_eq_zero (by have : s.data.size = s.size := rfl; omega)
    rw [this]
    exact ⟨rfl, Ch.refl _ _⟩
  · have h1 := ne_of_beq_false h1
    obtain ⟨i5, hi5, hz5, hs5, hb5⟩ : _ := inf_of (P := Tryd.prog) (t := 5) (z := .int .u8 0) (s := 1) (b := 1) (by kernel_rfl)
    refine sem_slice ?_
    refine makeSlice_of (e := 5) (by kernel_rfl) hi5 hz5 (Nat.le_refl _) (by rw [hb5]; omega) (by omega) ?_
    intro h1' b1 e1 z1
    refine ⟨_, _, _, rfl, ?_⟩
    show T.sem Tryd.prog (Builtin.copy_ #[142, 9] 3 #[.slice (some ⟨h.size, 0, none⟩) s.size s.size, .string s]) false [(false, [.int .i64])] _ [] _ h1'
    refine copyStr_of (e := 5) (by kernel_rfl) hi5 b1 rfl (by simp [hs5]) ?_
    intro h2 b2 c2 z2
    refine ⟨(_, ()), rfl, ?_⟩
    refine need_of ⟨by omega, by omega⟩ (osome_mk rfl ?_)
    have hl : setL ((List.range (s.size * i5.size)).map ((Value.int IntKind.u8 0).cells[· % (Value.int IntKind.u8 0).cells.size]!)) 0 (s.data.toList.map byteV) = s.data.toList.map byteV := by
      rw [setL_eq _ _ _ (by simp [hs5])]
      rw [List.take_zero, List.nil_append, List.drop_of_length_le (by simp [hs5]), List.append_nil]
    rw [hl] at b2
    have hne : s.data.toList ≠ [] := by
      intro hn; rw [hn] at hsz; simp at hsz; omega
    have h63 : s.size ≤ 9223372036854775807 := by omega
    rw [← hsz]
    refine unsafeString_of (e := 5) (by kernel_rfl) (by kernel_rfl) b2 s.data.toList hne (by simp) (by omega) (fun i hi => ?_) ?_
    · rw [b2.cell, List.getElem?_map, List.getElem?_eq_getElem hi]; rfl
    · intro h3 f' hg3 c3 z3
      refine ⟨(_, ()), rfl, ?_⟩
      refine ⟨?_, ?_⟩
      · congr 1
      · have hv : ∀ i, i ∈ [h.size] → i < h.size → i ∈ ([] : List Nat) := by
          intro i hi hlt; simp at hi; omega
        exact Ch.trans (Ch.trans e1 c2 hv) c3 hv
/-- What the laid variables must hold. -/
structure Laid (h : Hp) : Prop where
  syn : ∃ v, hcell h ⟨2, 0, none⟩ = some v ∧ isAggV v = false
  rng : ∃ v, hcell h ⟨3, 0, none⟩ = some v ∧ isAggV v = false
theorem Laid.ext {h h' : Hp} (l : Laid h) (e : Ext h h') : Laid h' := by
  obtain ⟨v, h1, h2⟩ := l.syn
  obtain ⟨u, h3, h4⟩ := l.rng
  exact ⟨⟨v, hcell_keep h1 e (by simp), h2⟩, ⟨u, hcell_keep h3 e (by simp), h4⟩⟩
theorem syntaxError_hc (fn s : ByteArray) (h : Hp) (hs : s.size ≤ 2 ^ 48) (hl : Laid h) : HC Tryd.prog 123 #[.string fn, .string s] h fun v h' => (∃ a, v = .pointer (some a)) ∧ Ext h h' := by
  refine hcr_of (args := [.string fn, .string s]) mixed Tryd.func123 (by kernel_rfl) (t_strconv_syntaxError_eq fn s) ?_
  unfold t_strconv_syntaxError
  obtain ⟨v, hv, hva⟩ := hl.syn
  refine loads_of (v, ()) ⟨hv, trivial⟩ ?_
  refine call_of (clone_hc s h hs) ?_
  rintro _ h1 ⟨rfl, e1⟩
  refine ⟨(s, ()), rfl, ?_⟩
  refine ⟨⟨⟨hcell_keep hv e1 (by simp), trivial⟩, trivial⟩, ?_⟩
  refine cond_f hva ?_
  refine newB ?_
  intro h2 b2 e2 z2
  exact ⟨⟨⟨hcell_keep (hcell_keep hv e1 (by simp)) e2 (by simp), trivial⟩, trivial⟩, ⟨_, rfl⟩, e1.trans e2⟩
theorem rangeError_hc (fn s : ByteArray) (h : Hp) (hs : s.size ≤ 2 ^ 48) (hl : Laid h) : HC Tryd.prog 124 #[.string fn, .string s] h fun v h' => (∃ a, v = .pointer (some a)) ∧ Ext h h' := by
  refine hcr_of (args := [.string fn, .string s]) mixed Tryd.func124 (by kernel_rfl) (t_strconv_rangeError_eq fn s) ?_
  unfold t_strconv_rangeError
  obtain ⟨v, hv, hva⟩ := hl.rng
  refine loads_of (v, ()) ⟨hv, trivial⟩ ?_
  refine call_of (clone_hc s h hs) ?_
  rintro _ h1 ⟨rfl, e1⟩
  refine ⟨(s, ()), rfl, ?_⟩
  refine ⟨⟨⟨hcell_keep hv e1 (by simp), trivial⟩, trivial⟩, ?_⟩
  refine cond_f hva ?_
  refine newB ?_
  intro h2 b2 e2 z2
  exact ⟨⟨⟨hcell_keep (hcell_keep hv e1 (by simp)) e2 (by simp), trivial⟩, trivial⟩, ⟨_, rfl⟩, e1.trans e2⟩
theorem cmp22 (h : Hp) (K : Value → Hp → Prop) : semW Tryd.prog (cmpS .eql 133 (.tmp 11) (.tmp 13) (.iface 157 (.int .i64 2)) (.iface 157 (.int .i64 2))) h K = K (.bool true) h := by kernel_rfl
theorem cmp12 (h : Hp) (K : Value → Hp → Prop) : semW Tryd.prog (cmpS .eql 133 (.tmp 11) (.tmp 13) (.iface 157 (.int .i64 1)) (.iface 157 (.int .i64 2))) h K = K (.bool false) h := by kernel_rfl
theorem cmp11 (h : Hp) (K : Value → Hp → Prop) : semW Tryd.prog (cmpS .eql 133 (.tmp 11) (.tmp 20) (.iface 157 (.int .i64 1)) (.iface 157 (.int .i64 1))) h K = K (.bool true) h := by kernel_rfl
abbrev fnPU : ByteArray := ⟨#[80, 97, 114, 115, 101, 85, 105, 110, 116]⟩
theorem toError_s10_hc (s : ByteArray) (h : Hp) (hs : s.size ≤ 2 ^ 48) (hl : Laid h) : HC Tryd.prog 109 #[.string fnPU, .string s, .int .i64 10, .int .i64 32, .iface 157 (.int .i64 2)] h fun v h' => (∃ a, v = .iface 159 (.pointer (some a))) ∧ Ext h h' := by
  refine hcr_of (args := [.string fnPU, .string s, .int .i64 10, .int .i64 32, .iface 157 (.int .i64 2)]) mixed Tryd.func109 (by kernel_rfl) (t_strconv_toError_s10_eq s) ?_
  unfold t_strconv_toError_s10
  refine sem_bool (b := true) (fun K' hk => by rw [cmp22]; exact hk) ?_
  refine cond_t rfl (call_of (syntaxError_hc _ s h hs hl) ?_)
  rintro _ h1 ⟨⟨a, rfl⟩, e1⟩
  exact ⟨(some a, ()), rfl, ⟨a, rfl⟩, e1⟩
theorem toError_s16_hc (s : ByteArray) (h : Hp) (hs : s.size ≤ 2 ^ 48) (hl : Laid h) : HC Tryd.prog 109 #[.string fnPU, .string s, .int .i64 16, .int .i64 32, .iface 157 (.int .i64 2)] h fun v h' => (∃ a, v = .iface 159 (.pointer (some a))) ∧ Ext h h' := by
  refine hcr_of (args := [.string fnPU, .string s, .int .i64 16, .int .i64 32, .iface 157 (.int .i64 2)]) mixed Tryd.func109 (by kernel_rfl) (t_strconv_toError_s16_eq s) ?_
  unfold t_strconv_toError_s16
  refine sem_bool (b := true) (fun K' hk => by rw [cmp22]; exact hk) ?_
  refine cond_t rfl (call_of (syntaxError_hc _ s h hs hl) ?_)
  rintro _ h1 ⟨⟨a, rfl⟩, e1⟩
  exact ⟨(some a, ()), rfl, ⟨a, rfl⟩, e1⟩
theorem toError_r10_hc (s : ByteArray) (h : Hp) (hs : s.size ≤ 2 ^ 48) (hl : Laid h) : HC Tryd.prog 109 #[.string fnPU, .string s, .int .i64 10, .int .i64 32, .iface 157 (.int .i64 1)] h fun v h' => (∃ a, v = .iface 159 (.pointer (some a))) ∧ Ext h h' := by
  refine hcr_of (args := [.string fnPU, .string s, .int .i64 10, .int .i64 32, .iface 157 (.int .i64 1)]) mixed Tryd.func109 (by kernel_rfl) (t_strconv_toError_r10_eq s) ?_
  unfold t_strconv_toError_r10
  refine sem_bool (b := false) (fun K' hk => by rw [cmp12]; exact hk) (cond_f rfl ?_)
  refine sem_bool (b := true) (fun K' hk => by rw [cmp11]; exact hk) ?_
  refine cond_t rfl (call_of (rangeError_hc _ s h hs hl) ?_)
  rintro _ h1 ⟨⟨a, rfl⟩, e1⟩
  exact ⟨(some a, ()), rfl, ⟨a, rfl⟩, e1⟩
end Go.Sx
