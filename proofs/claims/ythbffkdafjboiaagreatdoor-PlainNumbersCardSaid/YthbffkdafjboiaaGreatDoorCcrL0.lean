/- Pieces of a closed run, by the kernel. No condition. -/
import Derived.Test.YthbffkdafjboiaaGreatDoorCcrL
set_option linter.unusedVariables false
set_option maxRecDepth 100000
namespace Go.Sx.Cr
open Go.Proofs
theorem pn_p1 : cpiece cx (cfun cx 60) Tryz.f3.ntmps pn1.el pn1.ol 2 bodyN .nil ⟨goneTo cx.ng .nil, cx.ng⟩ = true := by kernel_rfl
theorem pn_p2 : cpiece cx (cfun cx 60) Tryz.f3.ntmps pn2.el pn2.ol 1 bodyN1 pn1.ev (pn1.cs cx) = true := by kernel_rfl
theorem pn_p3 : cpiece cx (cfun cx 60) Tryz.f3.ntmps pn3.el pn3.ol 1 bodyN2 pn2.ev (pn2.cs cx) = true := by kernel_rfl
end Go.Sx.Cr
