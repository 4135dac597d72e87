/- Pieces of a closed run, by the kernel. No condition. -/
import Derived.Test.YtmdncdaladplkaaGreatDoorDcrL
set_option linter.unusedVariables false
set_option maxRecDepth 100000
namespace Go.Sx.Cr
open Go.Proofs
theorem qn_p5 : cpiece cx (cfun cx 60) Tryz.f3.ntmps qn5.el qn5.ol 1 bodyN4 qn4.ev (qn4.cs cx) = true := by kernel_rfl
end Go.Sx.Cr
