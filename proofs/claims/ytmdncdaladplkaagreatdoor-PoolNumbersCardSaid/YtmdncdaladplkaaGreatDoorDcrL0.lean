/- Pieces of a closed run, by the kernel. No condition. -/
import Derived.Test.YtmdncdaladplkaaGreatDoorDcrL
set_option linter.unusedVariables false
set_option maxRecDepth 100000
namespace Go.Sx.Cr
open Go.Proofs
theorem qn_p1 : cpiece cx (cfun cx 60) Tryz.f3.ntmps qn1.el qn1.ol 2 bodyN .nil ⟨goneTo cx.ng .nil, cx.ng⟩ = true := by kernel_rfl
end Go.Sx.Cr
