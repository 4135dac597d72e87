/- known answers true, LexNames answers true, over heaps. Condition: the error variables hold interface values. -/
import Derived.Test.YtpbjlnlekobodaaDoorLexH
set_option linter.unusedVariables false
set_option linter.unusedSimpArgs false
set_option linter.deprecated false
set_option maxRecDepth 100000
namespace Go.Sx
open Go.Proofs
abbrev knS1 : ByteArray := ⟨#[97, 58, 32, 106, 109, 112, 32, 98, 43, 48, 120, 49, 102, 32, 59, 32, 120]⟩
abbrev knS2 : ByteArray := ⟨#[97, 32, 36]⟩
theorem lex1 : lexS knS1 = ([⟨1, ⟨#[97]⟩, 0, 0⟩, ⟨3, ⟨#[58]⟩, 0, 1⟩, ⟨1, ⟨#[106, 109, 112]⟩, 0, 3⟩, ⟨1, ⟨#[98]⟩, 0, 7⟩, ⟨3, ⟨#[43]⟩, 0, 8⟩, ⟨2, ⟨#[48, 120, 49, 102]⟩, 31, 9⟩], 0, 0) := by kernel_rfl
theorem lex2 : lexS knS2 = ([], 2, 20) := by kernel_rfl
theorem kn1 (h : Hp) (K : Value → Hp → Prop) : semW Tryd.prog (Sx.cmpS (BinOp.eql) 35 (Operand.tmp 27) (Operand.tmp 28) (.agg #[.int .i64 1, .string ⟨#[97]⟩, .int .u32 0, .int .i64 0]) (.agg #[.int .i64 (1 : Int), .string ⟨#[97]⟩, .int .u32 (0 : Int), .int .i64 (0 : Int)])) h K = K (.bool true) h := by kernel_rfl
theorem kn2 (h : Hp) (K : Value → Hp → Prop) : semW Tryd.prog (Sx.cmpS (BinOp.eql) 35 (Operand.tmp 34) (Operand.tmp 35) (.agg #[.int .i64 2, .string ⟨#[48, 120, 49, 102]⟩, .int .u32 31, .int .i64 9]) (.agg #[.int .i64 (2 : Int), .string ⟨#[48, 120, 49, 102]⟩, .int .u32 (31 : Int), .int .i64 (9 : Int)])) h K = K (.bool true) h := by kernel_rfl
theorem known_hc (h : Hp) (hl : Laid h) : HC Tryd.prog 24 #[] h fun v h' => v = .bool true ∧ Ext h h' := by
  refine hcr_of (args := []) mixed Tryd.func24 (by kernel_rfl) t_spandrellaw2_known_eq ?_
  unfold t_spandrellaw2_known
  refine call_of (tokens_hc knS1 h (by decide) hl) ?_
  rintro _ h1 ⟨p1, l1, c1, rfl, s1, e1⟩
  rw [lex1] at s1 ⊢
  refine ⟨((p1, l1, c1), (0 : Int), (0 : Int), ()), rfl, ?_⟩
  dsimp only [unc, unc1, flat, List.nil_append, List.cons_append]
  refine call_of (tokens_hc knS2 h1 (by decide) (hl.ext e1)) ?_
  rintro _ h2 ⟨p2, l2, c2, rfl, s2, e2⟩
  rw [lex2] at s2 ⊢
  refine ⟨((p2, l2, c2), (2 : Int), (20 : Int), ()), rfl, ?_⟩
  dsimp only [unc, unc1, flat, List.nil_append, List.cons_append]
  have s1 := s1.keep e2 (by simp)
  have hl1 : l1 = 6 := s1.1
  subst hl1
  refine cond_t rfl (cond_t rfl (need_of ⟨by omega, by omega⟩ ?_))
  obtain ⟨a, rfl, hc0⟩ := s1.cells (i := 0) (by simp)
  obtain ⟨a', ha', hc5⟩ := s1.cells (i := 5) (by simp)
  cases ha'
  refine osome_mk rfl ?_
  refine loads_of ((1 : Int), (⟨#[97]⟩ : ByteArray), (0 : Int), (0 : Int), ()) hc0 ?_
  refine sem_bool (b := true) (fun K' hk => by
    show semW Tryd.prog (Sx.cmpS (BinOp.eql) 35 (Operand.tmp 27) (Operand.tmp 28) (.agg #[.int .i64 1, .string ⟨#[97]⟩, .int .u32 0, .int .i64 0]) (.agg #[.int .i64 (1 : Int), .string ⟨#[97]⟩, .int .u32 (0 : Int), .int .i64 (0 : Int)])) h2 K'
    rw [kn1]; exact hk) (cond_t rfl (need_of ⟨by omega, by omega⟩ (osome_mk rfl ?_)))
  refine loads_of ((2 : Int), (⟨#[48, 120, 49, 102]⟩ : ByteArray), (31 : Int), (9 : Int), ()) hc5 ?_
  refine sem_bool (b := true) (fun K' hk => by
    show semW Tryd.prog (Sx.cmpS (BinOp.eql) 35 (Operand.tmp 34) (Operand.tmp 35) (.agg #[.int .i64 2, .string ⟨#[48, 120, 49, 102]⟩, .int .u32 31, .int .i64 9]) (.agg #[.int .i64 (2 : Int), .string ⟨#[48, 120, 49, 102]⟩, .int .u32 (31 : Int), .int .i64 (9 : Int)])) h2 K'
    rw [kn2]; exact hk) (cond_t rfl (cond_t rfl ?_))
  exact ⟨rfl, e1.trans e2⟩
theorem lexNames_hc (s : ByteArray) (h : Hp) (hs : s.size ≤ 9223372036854775807) (hl : Laid h) : HC Tryd.prog 8 #[.string s] h fun v h' => v = .bool true ∧ Ext h h' := by
  refine hcr_of (args := [.string s]) mixed Tryd.func8 (by kernel_rfl) (t_spandrellaw2_LexNames_eq s) ?_
  unfold t_spandrellaw2_LexNames
  refine call_ibb (register_hc s h) (call_ibb (register2_hc s h) (call_bool (legal_hc s h hs) (call_bool (legal2_hc s h hs) ?_)))
  refine cond_t (by simp) (cond_t (by simp) (cond_t (by simp) (cond_t (by simp) ?_)))
  refine call_of (known_hc h hl) ?_
  rintro _ h1 ⟨rfl, e1⟩
  exact ⟨(true, ()), rfl, rfl, e1⟩
end Go.Sx
