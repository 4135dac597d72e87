/- Trees of functions, each checked by the kernel against the code. No condition. -/
import Derived.Test.YtfkjiiapldkoeaaGreatDoorSxF
import Derived.Test.YtfkjiiapldkoeaaGreatDoorProg
import Derived.KernelRfl
set_option linter.unusedVariables false
set_option linter.unusedSimpArgs false
set_option linter.deprecated false
set_option maxRecDepth 100000
namespace Go.Sx
open Go.Proofs
def eS (a:Int) (b:Int) (c:Int) (d:Int) (e:Int):T :=
 T.new [vI a,vI b,vI c,.int .i32 d,vI e] 90 fun f =>
 T.ae f [.int .i64] fun g =>
 T.call Tryz.prog 91 [vI g] false [(false,[.int .i64])] fun h =>
 T.join [(false,[.int .i64]),(false,[.int .i64])]
 (cond (h==(2:Int))
 (cond (h==(2:Int))
 (T.again 0 [vI 8,vI 0])
 (cond (h==(3:Int))
 (T.again 0 [vI 4,vI 0])
 (cond (h==(4:Int))
 (T.again 0 [vI 8,vI 8])
 (cond (h==(5:Int))
 (T.again 0 [vI 4,vI 4])
 (cond (h==(6:Int))
 (T.again 0 [vI 8,vI 4])
 (cond (h==(7:Int))
 (T.again 0 [vI 4,vI 8])
 (T.again 0 [vI 0,vI 0])))))))
 (cond (h==(8:Int))
 (cond (h==(8:Int))
 (T.again 0 [vI 8,vI 0])
 (cond (h==(3:Int))
 (T.again 0 [vI 4,vI 0])
 (cond (h==(4:Int))
 (T.again 0 [vI 8,vI 8])
 (cond (h==(5:Int))
 (T.again 0 [vI 4,vI 4])
 (cond (h==(6:Int))
 (T.again 0 [vI 8,vI 4])
 (cond (h==(7:Int))
 (T.again 0 [vI 4,vI 8])
 (T.again 0 [vI 0,vI 0])))))))
 (cond (h==(10:Int))
 (cond (h==(10:Int))
 (T.again 0 [vI 8,vI 0])
 (cond (h==(3:Int))
 (T.again 0 [vI 4,vI 0])
 (cond (h==(4:Int))
 (T.again 0 [vI 8,vI 8])
 (cond (h==(5:Int))
 (T.again 0 [vI 4,vI 4])
 (cond (h==(6:Int))
 (T.again 0 [vI 8,vI 4])
 (cond (h==(7:Int))
 (T.again 0 [vI 4,vI 8])
 (T.again 0 [vI 0,vI 0])))))))
 (cond (h==(11:Int))
 (cond (h==(11:Int))
 (T.again 0 [vI 8,vI 0])
 (cond (h==(3:Int))
 (T.again 0 [vI 4,vI 0])
 (cond (h==(4:Int))
 (T.again 0 [vI 8,vI 8])
 (cond (h==(5:Int))
 (T.again 0 [vI 4,vI 4])
 (cond (h==(6:Int))
 (T.again 0 [vI 8,vI 4])
 (cond (h==(7:Int))
 (T.again 0 [vI 4,vI 8])
 (T.again 0 [vI 0,vI 0])))))))
 (cond (h==(13:Int))
 (T.again 0 [vI 8,vI 0])
 (cond (h==(3:Int))
 (T.again 0 [vI 4,vI 0])
 (cond (h==(4:Int))
 (T.again 0 [vI 8,vI 8])
 (cond (h==(5:Int))
 (T.again 0 [vI 4,vI 4])
 (cond (h==(6:Int))
 (T.again 0 [vI 8,vI 4])
 (cond (h==(7:Int))
 (T.again 0 [vI 4,vI 8])
 (T.again 0 [vI 0,vI 0]))))))))))) fun i j =>
 T.ae (f.add 1) [.int .i64] fun k =>
 cond (decide (k<(0:Int)))
 (T.ret (.bool false))
 (T.ae (f.add 2) [.int .i64] fun l =>
 cond (decide (l<(0:Int)))
 (T.ret (.bool false))
 (T.ae (f.add 1) [.int .i64] fun m =>
 cond (decide (m≥i))
 (cond (decide (i>(0:Int)))
 (T.ret (.bool false))
 (T.ae (f.add 1) [.int .i64] fun n =>
 cond (n != (0:Int))
 (T.ret (.bool false))
 (T.ae (f.add 2) [.int .i64] fun o =>
 cond (decide (o≥j))
 (cond (decide (j>(0:Int)))
 (T.ret (.bool false))
 (T.ae (f.add 2) [.int .i64] fun p =>
 cond (p != (0:Int))
 (T.ret (.bool false))
 (cond (h != (7:Int))
 (T.ret (.bool true))
 (T.ae (f.add 3) [.int .i32] fun q =>
 cond (decide (q≥(0:Int)))
 (T.ae (f.add 3) [.int .i32] fun r =>
 T.ret (.bool (decide (r≤(7:Int)))))
 (T.ret (.bool false))))))
 (cond (h != (7:Int))
 (T.ret (.bool true))
 (T.ae (f.add 3) [.int .i32] fun p =>
 cond (decide (p≥(0:Int)))
 (T.ae (f.add 3) [.int .i32] fun q =>
 T.ret (.bool (decide (q≤(7:Int)))))
 (T.ret (.bool false)))))))
 (T.ae (f.add 2) [.int .i64] fun n =>
 cond (decide (n≥j))
 (cond (decide (j>(0:Int)))
 (T.ret (.bool false))
 (T.ae (f.add 2) [.int .i64] fun o =>
 cond (o != (0:Int))
 (T.ret (.bool false))
 (cond (h != (7:Int))
 (T.ret (.bool true))
 (T.ae (f.add 3) [.int .i32] fun p =>
 cond (decide (p≥(0:Int)))
 (T.ae (f.add 3) [.int .i32] fun q =>
 T.ret (.bool (decide (q≤(7:Int)))))
 (T.ret (.bool false))))))
 (cond (h != (7:Int))
 (T.ret (.bool true))
 (T.ae (f.add 3) [.int .i32] fun o =>
 cond (decide (o≥(0:Int)))
 (T.ae (f.add 3) [.int .i32] fun p =>
 T.ret (.bool (decide (p≤(7:Int)))))
 (T.ret (.bool false)))))))
theorem ja (a:Int) (b:Int) (c:Int) (d:Int) (e:Int):aV Tryz.prog [1025] Tryz.f119 [.agg #[vI a,vI b,vI c,.int .i32 d,vI e]]=eS a b c d e:=by kernel_rfl
end Go.Sx
