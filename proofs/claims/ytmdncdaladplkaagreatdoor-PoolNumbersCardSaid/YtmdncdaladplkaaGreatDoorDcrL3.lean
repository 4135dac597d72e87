/- Pieces of a closed run, by the kernel. No condition. -/
import Derived.Test.YtmdncdaladplkaaGreatDoorDcrL
set_option linter.unusedVariables false
set_option maxRecDepth 100000
namespace Go.Sx.Cr
open Go.Proofs
theorem qn_p4 : cpiece cx (cfun cx 60) Tryz.f3.ntmps qn4.el qn4.ol 1 bodyN3 qn3.ev (qn3.cs cx) = true := by kernel_rfl
end Go.Sx.Cr
