/- Pieces of a closed run, by the kernel. No condition. -/
import Derived.Test.YthbffkdafjboiaaGreatDoorCcrL
set_option linter.unusedVariables false
set_option maxRecDepth 100000
namespace Go.Sx.Cr
open Go.Proofs
theorem pn_p4 : cpiece cx (cfun cx 60) Tryz.f3.ntmps pn4.el pn4.ol 1 bodyN3 pn3.ev (pn3.cs cx) = true := by kernel_rfl
theorem pn_p5 : cpiece cx (cfun cx 60) Tryz.f3.ntmps pn5.el pn5.ol 1 bodyN4 pn4.ev (pn4.cs cx) = true := by kernel_rfl
theorem pn_p6 : cpiece cx (cfun cx 60) Tryz.f3.ntmps pn6.el pn6.ol 6 bodyN5 pn5.ev (pn5.cs cx) = true := by kernel_rfl
end Go.Sx.Cr
