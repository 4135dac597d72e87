/- Trees of functions, each checked by the kernel against the code. No condition. -/
import Derived.Test.YtgnhjkofpmchpaaGreatDoorSxF
import Derived.Test.YtgnhjkofpmchpaaGreatDoorProg
import Derived.KernelRfl
set_option linter.unusedVariables false
set_option linter.unusedSimpArgs false
set_option linter.deprecated false
set_option maxRecDepth 100000
namespace Go.Sx
open Go.Proofs
def t_spandrelref5_registers (n0:Int) (n1_0:Int) (n2_0:Int) (n3_0:Int) (n4_0:Int):T :=
 T.new [vI n0,vI n1_0,vI n2_0,.int .i32 n3_0,vI n4_0] 52 <| fun a1 =>
 T.loads a1 [.int .i64] <| fun n2 =>
 T.call Tryz.prog 69 [vI n2] false [(false,[.int .i64])] <| fun n3 =>
 T.join [(false,[.int .i64]),(false,[.int .i64])]
 (cond (n3==(2:Int))
 (cond (n3==(2:Int))
 (T.again 0 [vI 8,vI 0])
 (cond (n3==(3:Int))
 (T.again 0 [vI 4,vI 0])
 (cond (n3==(4:Int))
 (T.again 0 [vI 8,vI 8])
 (cond (n3==(5:Int))
 (T.again 0 [vI 4,vI 4])
 (cond (n3==(6:Int))
 (T.again 0 [vI 8,vI 4])
 (cond (n3==(7:Int))
 (T.again 0 [vI 4,vI 8])
 (T.again 0 [vI 0,vI 0])))))))
 (cond (n3==(8:Int))
 (cond (n3==(8:Int))
 (T.again 0 [vI 8,vI 0])
 (cond (n3==(3:Int))
 (T.again 0 [vI 4,vI 0])
 (cond (n3==(4:Int))
 (T.again 0 [vI 8,vI 8])
 (cond (n3==(5:Int))
 (T.again 0 [vI 4,vI 4])
 (cond (n3==(6:Int))
 (T.again 0 [vI 8,vI 4])
 (cond (n3==(7:Int))
 (T.again 0 [vI 4,vI 8])
 (T.again 0 [vI 0,vI 0])))))))
 (cond (n3==(10:Int))
 (cond (n3==(10:Int))
 (T.again 0 [vI 8,vI 0])
 (cond (n3==(3:Int))
 (T.again 0 [vI 4,vI 0])
 (cond (n3==(4:Int))
 (T.again 0 [vI 8,vI 8])
 (cond (n3==(5:Int))
 (T.again 0 [vI 4,vI 4])
 (cond (n3==(6:Int))
 (T.again 0 [vI 8,vI 4])
 (cond (n3==(7:Int))
 (T.again 0 [vI 4,vI 8])
 (T.again 0 [vI 0,vI 0])))))))
 (cond (n3==(11:Int))
 (cond (n3==(11:Int))
 (T.again 0 [vI 8,vI 0])
 (cond (n3==(3:Int))
 (T.again 0 [vI 4,vI 0])
 (cond (n3==(4:Int))
 (T.again 0 [vI 8,vI 8])
 (cond (n3==(5:Int))
 (T.again 0 [vI 4,vI 4])
 (cond (n3==(6:Int))
 (T.again 0 [vI 8,vI 4])
 (cond (n3==(7:Int))
 (T.again 0 [vI 4,vI 8])
 (T.again 0 [vI 0,vI 0])))))))
 (cond (n3==(13:Int))
 (T.again 0 [vI 8,vI 0])
 (cond (n3==(3:Int))
 (T.again 0 [vI 4,vI 0])
 (cond (n3==(4:Int))
 (T.again 0 [vI 8,vI 8])
 (cond (n3==(5:Int))
 (T.again 0 [vI 4,vI 4])
 (cond (n3==(6:Int))
 (T.again 0 [vI 8,vI 4])
 (cond (n3==(7:Int))
 (T.again 0 [vI 4,vI 8])
 (T.again 0 [vI 0,vI 0]))))))))))) <| fun n4 n5 =>
 T.loads (a1.add 1) [.int .i64] <| fun n6 =>
 cond (decide (n6<(0:Int)))
 (T.ret (.bool false))
 (T.loads (a1.add 2) [.int .i64] <| fun n7 =>
 cond (decide (n7<(0:Int)))
 (T.ret (.bool false))
 (T.loads (a1.add 1) [.int .i64] <| fun n8 =>
 cond (decide (n8≥n4))
 (cond (decide (n4>(0:Int)))
 (T.ret (.bool false))
 (T.loads (a1.add 1) [.int .i64] <| fun n9 =>
 cond (n9 != (0:Int))
 (T.ret (.bool false))
 (T.loads (a1.add 2) [.int .i64] <| fun n10 =>
 cond (decide (n10≥n5))
 (cond (decide (n5>(0:Int)))
 (T.ret (.bool false))
 (T.loads (a1.add 2) [.int .i64] <| fun n11 =>
 cond (n11 != (0:Int))
 (T.ret (.bool false))
 (cond (n3 != (7:Int))
 (T.ret (.bool true))
 (T.loads (a1.add 3) [.int .i32] <| fun n12 =>
 cond (decide (n12≥(0:Int)))
 (T.loads (a1.add 3) [.int .i32] <| fun n13 =>
 T.ret (.bool (decide (n13≤(7:Int)))))
 (T.ret (.bool false))))))
 (cond (n3 != (7:Int))
 (T.ret (.bool true))
 (T.loads (a1.add 3) [.int .i32] <| fun n11 =>
 cond (decide (n11≥(0:Int)))
 (T.loads (a1.add 3) [.int .i32] <| fun n12 =>
 T.ret (.bool (decide (n12≤(7:Int)))))
 (T.ret (.bool false)))))))
 (T.loads (a1.add 2) [.int .i64] <| fun n9 =>
 cond (decide (n9≥n5))
 (cond (decide (n5>(0:Int)))
 (T.ret (.bool false))
 (T.loads (a1.add 2) [.int .i64] <| fun n10 =>
 cond (n10 != (0:Int))
 (T.ret (.bool false))
 (cond (n3 != (7:Int))
 (T.ret (.bool true))
 (T.loads (a1.add 3) [.int .i32] <| fun n11 =>
 cond (decide (n11≥(0:Int)))
 (T.loads (a1.add 3) [.int .i32] <| fun n12 =>
 T.ret (.bool (decide (n12≤(7:Int)))))
 (T.ret (.bool false))))))
 (cond (n3 != (7:Int))
 (T.ret (.bool true))
 (T.loads (a1.add 3) [.int .i32] <| fun n10 =>
 cond (decide (n10≥(0:Int)))
 (T.loads (a1.add 3) [.int .i32] <| fun n11 =>
 T.ret (.bool (decide (n11≤(7:Int)))))
 (T.ret (.bool false)))))))
theorem t_spandrelref5_registers_eq (n0:Int) (n1_0:Int) (n2_0:Int) (n3_0:Int) (n4_0:Int):xfun Tryz.prog [1025] Tryz.f70 [.agg #[vI n0,vI n1_0,vI n2_0,.int .i32 n3_0,vI n4_0]]=t_spandrelref5_registers n0 n1_0 n2_0 n3_0 n4_0:=by kernel_rfl
end Go.Sx
