/- A chapter's runs, joined. Asked: the table of operations as it was laid. -/
import Derived.Test.YtmdncdaladplkaaGreatDoorDcrL0
import Derived.Test.YtmdncdaladplkaaGreatDoorDcrL1
import Derived.Test.YtmdncdaladplkaaGreatDoorDcrL2
import Derived.Test.YtmdncdaladplkaaGreatDoorDcrL3
import Derived.Test.YtmdncdaladplkaaGreatDoorDcrL4
import Derived.Test.YtmdncdaladplkaaGreatDoorDcrL5
import Derived.Test.YtmdncdaladplkaaGreatDoorDcrL6
set_option linter.unusedVariables false
set_option maxRecDepth 100000
namespace Go.Sx.Cr
open Go.Proofs
theorem numbers_go (h0 : Hp) : ∀ ρ e' a h, Rel cx h0 ρ (goneTo cx.ng .nil) h → ER ρ .nil e' → Agr ⟨Tryz.f3.ntmps, []⟩ e' a → cW cx.P bodyN (Gives cx h0 Tryz.f3 (.bool true)) a h :=
  piece_to (c' := bodyN1) qn_p1 rfl (piece_to (c' := bodyN2) qn_p2 rfl (piece_to (c' := bodyN3) qn_p3 rfl (piece_to (c' := bodyN4) qn_p4 rfl (piece_to (c' := bodyN5) qn_p5 rfl (piece_to (c' := bodyN6) qn_p6 rfl (last_ok cx_ok mixed (cfun_ok cx_ok mixed 60) rfl qn_last))))))
theorem bodyN_eq : Tryz.f3.body = some bodyN := by kernel_rfl
theorem numbers_cr {h : Hp} (ht : ∃ e f, h[0]? = some (.cells opsV.toArray e f)) : HC Tryz.prog 3 #[] h fun v h' => v = .bool true ∧ Ext h h' :=
  hc_gives (C := cx) Tryz.func3 bodyN_eq fun e' a er g => numbers_go h _ e' a h (rel_start (cx_ro ht)) er g
end Go.Sx.Cr
