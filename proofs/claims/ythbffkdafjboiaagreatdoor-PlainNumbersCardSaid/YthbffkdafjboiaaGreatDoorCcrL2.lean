/- Pieces of a closed run, by the kernel. No condition. -/
import Derived.Test.YthbffkdafjboiaaGreatDoorCcrL
set_option linter.unusedVariables false
set_option maxRecDepth 100000
namespace Go.Sx.Cr
open Go.Proofs
theorem pn_p7 : cpiece cx (cfun cx 60) Tryz.f3.ntmps pn7.el pn7.ol 6 bodyN6 pn6.ev (pn6.cs cx) = true := by kernel_rfl
theorem pn_last : clast cx (cfun cx 60) Tryz.f3 (.bool true) bodyN7 pn7.ev (pn7.cs cx) = true := by kernel_rfl
end Go.Sx.Cr
