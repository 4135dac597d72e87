/- Pieces of a closed run, by the kernel. No condition. -/
import Derived.Test.YtmdncdaladplkaaGreatDoorDcrL
set_option linter.unusedVariables false
set_option maxRecDepth 100000
namespace Go.Sx.Cr
open Go.Proofs
theorem qn_p6 : cpiece cx (cfun cx 60) Tryz.f3.ntmps qn6.el qn6.ol 1 bodyN5 qn5.ev (qn5.cs cx) = true := by kernel_rfl
end Go.Sx.Cr
