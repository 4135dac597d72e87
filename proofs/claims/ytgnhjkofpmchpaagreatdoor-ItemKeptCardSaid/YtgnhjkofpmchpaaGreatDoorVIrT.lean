/- Trees of functions, each checked by the kernel against the code. No condition. -/
import Derived.Test.YtgnhjkofpmchpaaGreatDoorVSxF
import Derived.Test.YtgnhjkofpmchpaaGreatDoorProg
import Derived.KernelRfl
set_option linter.unusedVariables false
set_option linter.unusedSimpArgs false
set_option linter.deprecated false
set_option maxRecDepth 100000
namespace Go.Sx
open Go.Proofs
def t_spandrelref5_Shape (n0:Int):T :=
 T.call Tryz.prog 73 [] false [(false,[.slice 137])] <| fun p1 l2 l3 =>
 cond (decide (n0<(1:Int)))
 (T.ret (vI 0))
 (cond (decide (n0>(l2:Int)))
 (T.ret (vI 0))
 (T.need (((0:Int)≤(IntKind.wrap .i64 (n0-(1:Int))))∧((IntKind.wrap .i64 (n0-(1:Int)))<(l2:Int))) <|
 T.osome p1 <| fun a4 =>
 T.loads ((a4.add ((Int.toNat (IntKind.wrap .i64 (n0-(1:Int))))*3)).add 2) [.int .i64] <| fun n5 =>
 T.ret (vI n5)))
theorem t_spandrelref5_Shape_eq (n0:Int):xfun Tryz.prog [] Tryz.f69 [vI n0]=t_spandrelref5_Shape n0:=by kernel_rfl
def t_spandrelref8_power (n0:Int):T :=
 T.loop [(false,[.bool]),(false,[.int .i64])] [.bool false,vI 1] <| fun b1 n2 =>
 cond (decide (n2≤(256:Int)))
 (cond (n0==n2)
 (T.ret (.bool true))
 (T.again 0 [.bool b1,vI (IntKind.wrap .i64 ((2:Int)*n2))]))
 (T.ret (.bool false))
theorem t_spandrelref8_power_eq (n0:Int):xfun Tryz.prog [] Tryz.f45 [vI n0]=t_spandrelref8_power n0:=by kernel_rfl
end Go.Sx
