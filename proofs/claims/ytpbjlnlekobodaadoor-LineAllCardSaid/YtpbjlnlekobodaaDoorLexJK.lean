/- same and the document's hex, over heaps. Condition: at most 2^48 tokens. -/
import Derived.Test.YtpbjlnlekobodaaDoorLexI
import Derived.Test.YtpbjlnlekobodaaDoorLexV
import Derived.Test.YtpbjlnlekobodaaDoorSxE
set_option linter.unusedVariables false
set_option linter.unusedSimpArgs false
set_option linter.deprecated false
set_option maxRecDepth 100000
namespace Go.Sx
open Go.Proofs
/-- A struct type's fields. -/
def flds (P : Program) (t : TypeId) : Array Field :=
  match P.underlying t with
  | some (.struct fs) => fs
  | _ => #[]
theorem tok35 : Tryd.prog.underlying 35 = some (.struct (flds Tryd.prog 35)) := by kernel_rfl
theorem cmpTok (x y : Operand) (a : Int) (b : ByteArray) (c d : Int) (a' : Int) (b' : ByteArray) (c' d' : Int) (h : Hp) (K : Value → Hp → Prop) (hk : K (.bool !(a == a' && (b == b' && (c == c' && d == d')))) h) :
    semW Tryd.prog (Sx.cmpS (BinOp.neq) 35 x y (.agg #[.int .i64 a, .string b, .int .u32 c, .int .i64 d]) (.agg #[.int .i64 a', .string b', .int .u32 c', .int .i64 d'])) h K := by
  refine cmpS_neq tok35 (by kernel_rfl) (by kernel_rfl) (by kernel_rfl) K ?_
  have he : (flds Tryd.prog 35).all (eqF #[.int .i64 a, .string b, .int .u32 c, .int .i64 d] #[.int .i64 a', .string b', .int .u32 c', .int .i64 d']) = (a == a' && (b == b' && (c == c' && (d == d' && true)))) := by
    rw [← Array.all_toList]
    kernel_rfl
  rw [he, Bool.and_true]
  exact hk
theorem bytes_beq (t : ByteArray) : (t == t) = true := by
  cases t with | mk d => show (d == d) = true; simp
theorem same_hc {h : Hp} {b b' : Nat} {e e' : TypeId} {p0 p1 : Option Addr} {l0 c0 l1 c1 : Nat} {ts : List Tok} (hlen : ts.length ≤ 2 ^ 48) (s0 : SL h b e 4 p0 l0 c0 (ts.map enc)) (s1 : SL h b' e' 4 p1 l1 c1 (ts.map enc)) :
    HCp Tryd.prog 23 [.slice p0 l0 c0, .slice p1 l1 c1] h (.bool true) := by
  refine hcp_of mixed Tryd.func23 (by kernel_rfl) (t_spandrellaw2_same_eq p0 l0 c0 p1 l1 c1) ?_
  unfold t_spandrellaw2_same
  have e0 : l0 = ts.length := by rw [s0.1, List.length_map]
  have e1 : l1 = ts.length := by rw [s1.1, List.length_map]
  refine cond_f (by rw [e0, e1]; simp) ?_
  refine loop_of (cs := [(false, [.bool]), (false, [.int .i64])]) (fun x n h' => h' = h ∧ ∃ k : Nat, x.2.1 = (k : Int) ∧ k ≤ ts.length ∧ n = ts.length - k) (false, (0 : Int), ()) ts.length rfl ⟨rfl, 0, rfl, by omega, by omega⟩ ?_
  rintro ⟨b1, n2, ⟨⟩⟩ m h' ⟨rfl, k, hk, hle, rfl⟩
  simp only at hk
  subst hk
  dsimp only [flat, unc, unc1, List.nil_append, List.cons_append]
  refine cond_mk (fun hb => ?_) (fun hb => ⟨rfl, rfl⟩)
  have hb : (k : Int) < (l0 : Int) := of_decide_eq_true hb
  have hlt : k < ts.length := by omega
  obtain ⟨a, rfl, hc⟩ := s0.cells (i := k) (by simpa using hlt)
  obtain ⟨a', rfl, hc'⟩ := s1.cells (i := k) (by simpa using hlt)
  rw [List.getElem_map] at hc hc'
  generalize ts[k] = t at hc hc'
  have hkn : Int.toNat (k : Int) = k := by omega
  rw [hkn]
  have hz : ∀ (q : Addr) (i j : Nat), (q.add i).add j = q.add (i + j) := by
    intro q i j
    unfold Addr.add
    by_cases hi : i = 0 <;> by_cases hj : j = 0 <;> simp [hi, hj] <;> omega
  obtain ⟨q0, q1, q2, q3, _⟩ := hc'
  refine need_of ⟨by omega, by omega⟩ (osome_mk rfl (loads_of ((t.kind : Int), t.text, (t.num : Int), (t.at_ : Int), ()) hc ?_))
  refine need_of ⟨by omega, by omega⟩ (osome_mk rfl (loads_of ((t.kind : Int), ()) ⟨q0, trivial⟩ ?_))
  refine need_of ⟨by omega, by omega⟩ (osome_mk rfl (loads_of (t.text, ()) ⟨q1, trivial⟩ ?_))
  refine need_of ⟨by omega, by omega⟩ (osome_mk rfl (loads_of ((t.num : Int), ()) ⟨q2, trivial⟩ ?_))
  refine need_of ⟨by omega, by omega⟩ (osome_mk rfl (loads_of ((t.at_ : Int), ()) ⟨q3, trivial⟩ ?_))
  refine sem_bool (b := false) (fun K' hk => cmpTok _ _ _ _ _ _ _ _ _ _ _ _ (by rw [bytes_beq]; simpa using hk)) ?_
  refine ⟨⟨⟨q3, trivial⟩, ⟨q2, trivial⟩, ⟨q1, trivial⟩, ⟨q0, trivial⟩, trivial⟩, ?_⟩
  refine cond_f rfl ?_
  have hw : IntKind.wrap .i64 ((k : Int) + 1) = (k : Int) + 1 := wrap_i64 (by omega) (by omega)
  exact again_mk (cs := [(false, [.bool]), (false, [.int .i64])]) (b1, (k : Int) + 1, ()) (ts.length - (k + 1)) rfl (by omega) (congrArg (fun z => [Value.bool b1, .int .i64 z]) hw) ⟨rfl, k + 1, (show ((k : Int) + 1) = ((k + 1 : Nat) : Int) from by omega), by omega, rfl⟩
end Go.Sx

set_option linter.unusedVariables false
set_option maxRecDepth 100000
namespace Go.Sx
open Go.Proofs
/-- A hexadecimal digit's worth, or -1. -/
def hv (c : UInt8) : Int := if isHex c = true then (dv c : Int) else -1
theorem hex_hc (c : UInt8) (h : Hp) : HCp Tryd.prog 94 [.int .u8 (cN c)] h (.int .i64 (hv c)) := by
  refine hcp_of mixed Tryd.func94 (by kernel_rfl) (t_spandrelref2_hex_eq _) ?_
  unfold t_spandrelref2_hex
  refine call_bool (digit_hc c h) ?_
  have hlt : c.toNat < 256 := c.toNat_lt
  have hdi := isDig_iff c
  have hhi := isHex_iff c
  refine cond_mk (fun h1 => ?_) (fun h1 => ?_)
  · have h2 := hdi.1 h1
    have h3 : isHex c = true := hhi.2 (.inl h2)
    have h4 := (dv_hex c h3).1 h2.2
    refine ⟨?_, rfl⟩
    congr 1
    unfold hv
    rw [if_pos h3, h4, wrap_u8 (by omega) (by omega), wrap_i64 (by omega) (by omega)]
  · have h2 : ¬ (48 ≤ cN c ∧ cN c ≤ 57) := fun hh => by rw [hdi.2 hh] at h1; cases h1
    refine cond_mk (fun h3 => ?_) (fun h3 => ?_)
    · have h3 : cN c ≥ 97 := of_decide_eq_true h3
      refine cond_mk (fun h4 => ?_) (fun h4 => ?_)
      · have h4 : cN c ≤ 102 := of_decide_eq_true h4
        have h5 : isHex c = true := hhi.2 (.inr ⟨h3, h4⟩)
        have h6 := (dv_hex c h5).2.1 (by omega)
        refine ⟨?_, rfl⟩
        congr 1
        unfold hv
        rw [if_pos h5, h6, wrap_u8 (x := cN c - 97) (by omega) (by omega), wrap_i64 (x := cN c - 97) (by omega) (by omega), wrap_i64 (by omega) (by omega)]
        omega
      · have h4 : ¬ cN c ≤ 102 := of_decide_eq_false h4
        refine ⟨?_, rfl⟩
        unfold hv
        rw [if_neg (fun hh => by have := hhi.1 hh; omega)]
    · have h3 : ¬ cN c ≥ 97 := of_decide_eq_false h3
      refine ⟨?_, rfl⟩
      unfold hv
      rw [if_neg (fun hh => by have := hhi.1 hh; omega)]
end Go.Sx
