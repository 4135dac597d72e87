/- Pieces of a closed run, by the kernel. No condition. -/
import Derived.Test.YtmdncdaladplkaaGreatDoorDcrL
set_option linter.unusedVariables false
set_option maxRecDepth 100000
namespace Go.Sx.Cr
open Go.Proofs
theorem qn_last : clast cx (cfun cx 60) Tryz.f3 (.bool true) bodyN6 qn6.ev (qn6.cs cx) = true := by kernel_rfl
end Go.Sx.Cr
