/- Pieces of a closed run, by the kernel. No condition. -/
import Derived.Test.YtmdncdaladplkaaGreatDoorDcrL
set_option linter.unusedVariables false
set_option maxRecDepth 100000
namespace Go.Sx.Cr
open Go.Proofs
theorem qn_p3 : cpiece cx (cfun cx 60) Tryz.f3.ntmps qn3.el qn3.ol 3 bodyN2 qn2.ev (qn2.cs cx) = true := by kernel_rfl
end Go.Sx.Cr
