/- What the document's hex answers. No condition. -/
import Derived.Test.YtpbjlnlekobodaaDoorLexJ
set_option linter.unusedVariables false
set_option linter.unusedSimpArgs false
set_option linter.deprecated false
set_option maxRecDepth 100000
namespace Go.Sx
open Go.Proofs
/-- A hexadecimal digit's worth, or -1. -/
def hv (c : UInt8) : Int := if isHex c = true then (dv c : Int) else -1
theorem hex_hc (c : UInt8) (h : Hp) : HCp Tryd.prog 94 [.int .u8 (cN c)] h (.int .i64 (hv c)) := by
  refine hcp_of mixed Tryd.func94 (by kernel_rfl) (t_spandrelref2_hex_eq _) ?_
  unfold t_spandrelref2_hex
  refine call_bool (digit_hc c h) ?_
  have hlt : c.toNat < 256 := c.toNat_lt
  have hdi := isDig_iff c
  have hhi := isHex_iff c
  refine cond_mk (fun h1 => ?_) (fun h1 => ?_)
  · have h2 := hdi.1 h1
    have h3 : isHex c = true := hhi.2 (.inl h2)
    have h4 := (dv_hex c h3).1 h2.2
    refine ⟨?_, rfl⟩
    congr 1
    unfold hv
    rw [if_pos h3, h4, wrap_u8 (by omega) (by omega), wrap_i64 (by omega) (by omega)]
  · have h2 : ¬ (48 ≤ cN c ∧ cN c ≤ 57) := fun hh => by rw [hdi.2 hh] at h1; cases h1
    refine cond_mk (fun h3 => ?_) (fun h3 => ?_)
    · have h3 : cN c ≥ 97 := of_decide_eq_true h3
      refine cond_mk (fun h4 => ?_) (fun h4 => ?_)
      · have h4 : cN c ≤ 102 := of_decide_eq_true h4
        have h5 : isHex c = true := hhi.2 (.inr ⟨h3, h4⟩)
        have h6 := (dv_hex c h5).2.1 (by omega)
        refine ⟨?_, rfl⟩
        congr 1
        unfold hv
        rw [if_pos h5, h6, wrap_u8 (x := cN c - 97) (by omega) (by omega), wrap_i64 (x := cN c - 97) (by omega) (by omega), wrap_i64 (by omega) (by omega)]
        omega
      · have h4 : ¬ cN c ≤ 102 := of_decide_eq_false h4
        refine ⟨?_, rfl⟩
        unfold hv
        rw [if_neg (fun hh => by have := hhi.1 hh; omega)]
    · have h3 : ¬ cN c ≥ 97 := of_decide_eq_false h3
      refine ⟨?_, rfl⟩
      unfold hv
      rw [if_neg (fun hh => by have := hhi.1 hh; omega)]
end Go.Sx
