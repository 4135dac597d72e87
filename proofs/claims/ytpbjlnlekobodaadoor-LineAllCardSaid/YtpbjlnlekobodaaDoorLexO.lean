/- LexTokens and LexNumbers answer true, over heaps. Condition: the error variables hold interface values. -/
import Derived.Test.YtpbjlnlekobodaaDoorLexN
import Derived.Test.YtpbjlnlekobodaaDoorLexW
set_option linter.unusedVariables false
set_option linter.unusedSimpArgs false
set_option linter.deprecated false
set_option maxRecDepth 100000
namespace Go.Sx
open Go.Proofs
theorem chain_len {s : ByteArray} {k : Nat} {ts : List Tok} (h : Chain s k ts) : k + ts.length ≤ s.size := by
  induction h with
  | stop k hk _ => simpa using hk
  | tok k kind n m ts hk hD hc ih =>
    have := (lexD_pos hD).1
    rw [List.length_cons]
    omega
theorem lexS_len (s : ByteArray) : (lexS s).1.length ≤ s.size := by
  rcases lexS_cases s with ⟨hc, _⟩ | ⟨a, ha, he⟩
  · have := chain_len hc; omega
  · rw [he]; simp
theorem lexTokens_hc (s : ByteArray) (h : Hp) (hl : Laid h) : HC Tryd.prog 3 #[.string s] h fun v h' => v = .bool true ∧ Ext h h' := by
  refine hcr_of (args := [.string s]) mixed Tryd.func3 (by kernel_rfl) (t_spandrellaw2_LexTokens_eq s) ?_
  unfold t_spandrellaw2_LexTokens
  refine call_str (few_hc s 3000 h (by omega)) ?_
  obtain ⟨s1, hs1⟩ : ∃ s1, s1 = s.extract 0 (min (Int.toNat 3000) s.size) := ⟨_, rfl⟩
  rw [← hs1]
  have hsz : s1.size ≤ 2 ^ 40 := by rw [hs1, ext_size]; omega
  refine call_of (tokens_hc s1 h hsz hl) ?_
  rintro _ h1 ⟨p1, l1, c1, rfl, sl1, e1⟩
  refine ⟨((p1, l1, c1), ((lexS s1).2.1 : Int), ((lexS s1).2.2 : Int), ()), rfl, ?_⟩
  dsimp only [unc, unc1, flat, List.nil_append, List.cons_append]
  refine call_of (tokens2_hc s1 h1 hsz) ?_
  rintro _ h2 ⟨p2, l2, c2, rfl, sl2, e2⟩
  refine ⟨((p2, l2, c2), ((lexS s1).2.1 : Int), ((lexS s1).2.2 : Int), ()), rfl, ?_⟩
  dsimp only [unc, unc1, flat, List.nil_append, List.cons_append]
  have sl1 := sl1.keep e2 (by simp)
  refine call_bool (same_hc (by have := lexS_len s1; omega) sl1 sl2) ?_
  refine cond_t rfl (cond_t (by simp) (cond_t (by simp) ?_))
  refine call_of (known_hc h2 (hl.ext (e1.trans e2))) ?_
  rintro _ h3 ⟨rfl, e3⟩
  exact ⟨(true, ()), rfl, rfl, (e1.trans e2).trans e3⟩
def badT : List ByteArray := [⟨#[39, 39, 39]⟩, ⟨#[48, 48, 55]⟩, ⟨#[48, 120]⟩, ⟨#[52, 50, 57, 52, 57, 54, 55, 50, 57, 54]⟩, ⟨#[49, 97]⟩, ⟨#[10]⟩,
  ⟨#[97, 98, 99, 100, 101, 102, 103, 104, 105, 106, 107, 108, 109, 110, 111, 112, 113, 114, 115, 116, 117, 118, 119, 120, 121, 122, 97, 98, 99, 100, 101, 102, 103]⟩]
theorem badT_lex : ∀ x ∈ badT, lexS x = ([], 0, 20) ∧ x.size ≤ 2 ^ 40 := by
  intro x hx
  unfold badT at hx
  simp only [List.mem_cons, List.not_mem_nil, or_false] at hx
  rcases hx with rfl | rfl | rfl | rfl | rfl | rfl | rfl
  all_goals exact ⟨by kernel_rfl, by decide⟩
abbrev numS1 : ByteArray := ⟨#[39, 32, 39, 32, 39, 59, 39, 52, 50, 57, 52, 57, 54, 55, 50, 57, 53]⟩
theorem numS1_lex : lexS numS1 = ([⟨2, ⟨#[39, 32, 39]⟩, 32, 0⟩, ⟨2, ⟨#[39, 59, 39]⟩, 59, 4⟩, ⟨2, ⟨#[52, 50, 57, 52, 57, 54, 55, 50, 57, 53]⟩, 4294967295, 7⟩], 0, 0) := by kernel_rfl
theorem lexNumbers_hc (h : Hp) (hl : Laid h) : HC Tryd.prog 7 #[] h fun v h' => v = .bool true ∧ Ext h h' := by
  refine hcr_of (args := []) mixed Tryd.func7 (by kernel_rfl) t_spandrellaw2_LexNumbers_eq ?_
  unfold t_spandrellaw2_LexNumbers
  refine lit_of (e := 9) (z := .string ⟨#[]⟩) (sz := 1) (by' := 16) (by kernel_rfl) (by kernel_rfl) (by omega) (by omega) (cells := badT.map Value.string) (by kernel_rfl) ?_
  intro h1 b1 e1 z1
  refine loop_of (cs := [(false, [.bool]), (false, [.int .i64])]) (fun x n h' => Ext h1 h' ∧ ∃ i : Nat, x.2.1 = (i : Int) ∧ i ≤ 7 ∧ n = 7 - i) (false, (0 : Int), ()) 7 rfl ⟨Ch.refl _ _, 0, rfl, by omega, by omega⟩ ?_
  rintro ⟨b4, n5, ⟨⟩⟩ m h2 ⟨e2, i, hi, hle, rfl⟩
  simp only at hi
  subst hi
  dsimp only [flat, unc, unc1, List.nil_append, List.cons_append]
  refine cond_mk (fun hb => ?_) (fun hb => ?_)
  · have hb : (i : Int) < (7 : Nat) := of_decide_eq_true hb
    have hlt : i < badT.length := by show i < 7; omega
    refine need_of ⟨by omega, by omega⟩ (osome_mk rfl ?_)
    rw [add_box, Nat.zero_add, Nat.mul_one, show Int.toNat (i : Int) = i by omega]
    refine loads_box (b1.keep e2 (by simp)) (badT[i], ()) ?_ ?_
    · show ((badT.map Value.string).drop i).take 1 = [.string badT[i]]
      rw [List.drop_eq_getElem_cons (by rw [List.length_map]; exact hlt)]
      simp
    · have hx := badT_lex badT[i] (List.getElem_mem hlt)
      dsimp only [flat, unc, unc1, List.nil_append, List.cons_append]
      generalize badT[i] = x at hx
      refine call_of (tokens_hc x h2 hx.2 (hl.ext (e1.trans e2))) ?_
      rintro _ h3 ⟨p3, l3, c3, rfl, sl3, e3⟩
      rw [hx.1] at sl3 ⊢
      refine ⟨((p3, l3, c3), (0 : Int), (20 : Int), ()), rfl, ?_⟩
      dsimp only [unc, unc1, flat, List.nil_append, List.cons_append]
      have hl3 : l3 = 0 := sl3.1
      subst hl3
      refine cond_f rfl (cond_f rfl (cond_f rfl ?_))
      have hw : IntKind.wrap .i64 ((i : Int) + 1) = (i : Int) + 1 := wrap_i64 (by omega) (by omega)
      exact again_mk (cs := [(false, [.bool]), (false, [.int .i64])]) (b4, (i : Int) + 1, ()) (7 - (i + 1)) rfl (by omega) (congrArg (fun z => [Value.bool b4, .int .i64 z]) hw) ⟨e2.trans e3, i + 1, (show ((i : Int) + 1) = ((i + 1 : Nat) : Int) from by omega), by omega, rfl⟩
  · refine call_of (tokens_hc numS1 h2 (by decide) (hl.ext (e1.trans e2))) ?_
    rintro _ h3 ⟨p3, l3, c3, rfl, sl3, e3⟩
    rw [numS1_lex] at sl3 ⊢
    refine ⟨((p3, l3, c3), (0 : Int), (0 : Int), ()), rfl, ?_⟩
    dsimp only [unc, unc1, flat, List.nil_append, List.cons_append]
    have hl3 : l3 = 3 := sl3.1
    subst hl3
    refine call_ibb (n := 3) (b := true) (c := true) (register_hc _ h3) (call_ibb (n := 0) (b := false) (c := false) (register_hc _ h3) ?_)
    obtain ⟨a0, rfl, q0⟩ := sl3.cells (i := 0) (by simp)
    obtain ⟨a1, ha1, q1⟩ := sl3.cells (i := 1) (by simp)
    cases ha1
    obtain ⟨a2, ha2, q2⟩ := sl3.cells (i := 2) (by simp)
    cases ha2
    obtain ⟨_, _, q0, _⟩ := q0
    obtain ⟨_, _, q1, _⟩ := q1
    obtain ⟨_, _, q2, _⟩ := q2
    refine cond_t rfl (cond_t rfl (need_of ⟨by omega, by omega⟩ (osome_mk rfl (loads_of ((32 : Int), ()) ⟨q0, trivial⟩ ?_))))
    dsimp only [unc, unc1, flat, List.nil_append, List.cons_append]
    refine cond_t rfl (need_of ⟨by omega, by omega⟩ (osome_mk rfl (loads_of ((59 : Int), ()) ⟨q1, trivial⟩ ?_)))
    dsimp only [unc, unc1, flat, List.nil_append, List.cons_append]
    refine cond_t rfl (need_of ⟨by omega, by omega⟩ (osome_mk rfl (loads_of ((4294967295 : Int), ()) ⟨q2, trivial⟩ ?_)))
    dsimp only [unc, unc1, flat, List.nil_append, List.cons_append]
    refine cond_t rfl ?_
    refine call_bool (b := false) (legal_hc _ h3 (by decide)) (cond_t rfl ?_)
    refine call_bool (b := true) (legal_hc _ h3 (by decide)) (cond_t rfl ?_)
    refine call_bool (b := true) (legal_hc _ h3 (by decide)) (cond_t rfl ?_)
    refine call_bool (b := false) (legal_hc _ h3 (by decide)) (cond_t rfl ?_)
    refine cond_t rfl (cond_t rfl (cond_t rfl (cond_t rfl (cond_t rfl (cond_t rfl ?_)))))
    refine call_of (known_hc h3 (hl.ext ((e1.trans e2).trans e3))) ?_
    rintro _ h4 ⟨rfl, e4⟩
    exact ⟨(true, ()), rfl, rfl, ((e1.trans e2).trans e3).trans e4⟩
end Go.Sx
