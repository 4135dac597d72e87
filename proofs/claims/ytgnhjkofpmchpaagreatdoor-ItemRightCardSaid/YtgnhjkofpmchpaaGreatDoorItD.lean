/- Trees of functions, each checked by the kernel against the code. No condition. -/
import Derived.Test.YtgnhjkofpmchpaaGreatDoorSxF
import Derived.Test.YtgnhjkofpmchpaaGreatDoorProg
import Derived.KernelRfl
set_option linter.unusedVariables false
set_option linter.unusedSimpArgs false
set_option linter.deprecated false
set_option maxRecDepth 100000
namespace Go.Sx
open Go.Proofs
def t_spandrelref8_code (n0:Int) (pp10:Option Addr) (ll10 cc10:Nat):T :=
 T.new [vI 0,.string ⟨#[]⟩,vI 0,vI 0,vI 0,.int .i32 0,vI 0,.slice none 0 0,.int .u32 0,vI 0] 54 <| fun a2 =>
 T.call Tryz.prog 69 [vI n0] false [(false,[.int .i64])] <| fun n3 =>
 T.call Tryz.prog 74 [vI n3] false [(false,[.int .i64])] <| fun n4 =>
 cond ((ll10:Int) != n4)
 (T.stores a2 [vI 0,.string ⟨#[]⟩,vI 0,vI 0,vI 0,.int .i32 0,vI 0,.slice none 0 0,.int .u32 0,vI 0] <|
 T.loads a2 yI <| fun n5 s6 n7 n8 n9 n10 n11 p12 l13 l14 n15 n16 =>
 T.ret (.tuple #[.agg #[vI n5,.string s6,vI n7,vI n8,vI n9,.int .i32 n10,vI n11,.slice p12 l13 l14,.int .u32 n15,vI n16],vI 20]))
 (T.new [vI 0,.string ⟨#[]⟩,vI 0,vI 0,vI 0,.int .i32 0,vI 0,.slice none 0 0,.int .u32 0,vI 0] 54 <| fun a5 =>
 T.stores a5 [vI 2,.string ⟨#[]⟩,vI n0,vI 0,vI 0,.int .i32 0,vI 0,.slice none 0 0,.int .u32 0,vI 0] <|
 T.join [(false,[.int .i64]),(false,[.int .i64])]
 (cond (n3==(2:Int))
 (cond (n3==(2:Int))
 (T.need (((0:Int)≤(0:Int))∧((0:Int)<(ll10:Int))) <|
 T.osome pp10 <| fun a6 =>
 T.loads a6 [.slice 101] <| fun p7 l8 l9 =>
 T.call Tryz.prog 75 [.slice p7 l8 l9,.bool false] true [(false,[.int .i64]),(false,[.int .i64])] <| fun n10 n11 =>
 T.stores ((a5.add 2).add 1) [vI n10] <|
 T.again 0 [vI n11,vI 1])
 (cond (n3==(3:Int))
 (cond (n3==(3:Int))
 (T.need (((0:Int)≤(0:Int))∧((0:Int)<(ll10:Int))) <|
 T.osome pp10 <| fun a6 =>
 T.loads a6 [.slice 101] <| fun p7 l8 l9 =>
 T.call Tryz.prog 75 [.slice p7 l8 l9,.bool true] true [(false,[.int .i64]),(false,[.int .i64])] <| fun n10 n11 =>
 T.stores ((a5.add 2).add 1) [vI n10] <|
 T.again 0 [vI n11,vI 1])
 (T.again 0 [vI 0,vI 0]))
 (cond (n3==(5:Int))
 (cond (n3==(5:Int))
 (T.need (((0:Int)≤(0:Int))∧((0:Int)<(ll10:Int))) <|
 T.osome pp10 <| fun a6 =>
 T.loads a6 [.slice 101] <| fun p7 l8 l9 =>
 T.call Tryz.prog 75 [.slice p7 l8 l9,.bool true] true [(false,[.int .i64]),(false,[.int .i64])] <| fun n10 n11 =>
 T.stores ((a5.add 2).add 1) [vI n10] <|
 T.again 0 [vI n11,vI 1])
 (T.again 0 [vI 0,vI 0]))
 (cond (n3==(7:Int))
 (T.need (((0:Int)≤(0:Int))∧((0:Int)<(ll10:Int))) <|
 T.osome pp10 <| fun a6 =>
 T.loads a6 [.slice 101] <| fun p7 l8 l9 =>
 T.call Tryz.prog 75 [.slice p7 l8 l9,.bool true] true [(false,[.int .i64]),(false,[.int .i64])] <| fun n10 n11 =>
 T.stores ((a5.add 2).add 1) [vI n10] <|
 T.again 0 [vI n11,vI 1])
 (T.again 0 [vI 0,vI 0])))))
 (cond (n3==(4:Int))
 (cond (n3==(4:Int))
 (T.need (((0:Int)≤(0:Int))∧((0:Int)<(ll10:Int))) <|
 T.osome pp10 <| fun a6 =>
 T.loads a6 [.slice 101] <| fun p7 l8 l9 =>
 T.call Tryz.prog 75 [.slice p7 l8 l9,.bool false] true [(false,[.int .i64]),(false,[.int .i64])] <| fun n10 n11 =>
 T.stores ((a5.add 2).add 1) [vI n10] <|
 T.again 0 [vI n11,vI 1])
 (cond (n3==(3:Int))
 (cond (n3==(3:Int))
 (T.need (((0:Int)≤(0:Int))∧((0:Int)<(ll10:Int))) <|
 T.osome pp10 <| fun a6 =>
 T.loads a6 [.slice 101] <| fun p7 l8 l9 =>
 T.call Tryz.prog 75 [.slice p7 l8 l9,.bool true] true [(false,[.int .i64]),(false,[.int .i64])] <| fun n10 n11 =>
 T.stores ((a5.add 2).add 1) [vI n10] <|
 T.again 0 [vI n11,vI 1])
 (T.again 0 [vI 0,vI 0]))
 (cond (n3==(5:Int))
 (cond (n3==(5:Int))
 (T.need (((0:Int)≤(0:Int))∧((0:Int)<(ll10:Int))) <|
 T.osome pp10 <| fun a6 =>
 T.loads a6 [.slice 101] <| fun p7 l8 l9 =>
 T.call Tryz.prog 75 [.slice p7 l8 l9,.bool true] true [(false,[.int .i64]),(false,[.int .i64])] <| fun n10 n11 =>
 T.stores ((a5.add 2).add 1) [vI n10] <|
 T.again 0 [vI n11,vI 1])
 (T.again 0 [vI 0,vI 0]))
 (cond (n3==(7:Int))
 (T.need (((0:Int)≤(0:Int))∧((0:Int)<(ll10:Int))) <|
 T.osome pp10 <| fun a6 =>
 T.loads a6 [.slice 101] <| fun p7 l8 l9 =>
 T.call Tryz.prog 75 [.slice p7 l8 l9,.bool true] true [(false,[.int .i64]),(false,[.int .i64])] <| fun n10 n11 =>
 T.stores ((a5.add 2).add 1) [vI n10] <|
 T.again 0 [vI n11,vI 1])
 (T.again 0 [vI 0,vI 0])))))
 (cond (n3==(6:Int))
 (cond (n3==(6:Int))
 (T.need (((0:Int)≤(0:Int))∧((0:Int)<(ll10:Int))) <|
 T.osome pp10 <| fun a6 =>
 T.loads a6 [.slice 101] <| fun p7 l8 l9 =>
 T.call Tryz.prog 75 [.slice p7 l8 l9,.bool false] true [(false,[.int .i64]),(false,[.int .i64])] <| fun n10 n11 =>
 T.stores ((a5.add 2).add 1) [vI n10] <|
 T.again 0 [vI n11,vI 1])
 (cond (n3==(3:Int))
 (cond (n3==(3:Int))
 (T.need (((0:Int)≤(0:Int))∧((0:Int)<(ll10:Int))) <|
 T.osome pp10 <| fun a6 =>
 T.loads a6 [.slice 101] <| fun p7 l8 l9 =>
 T.call Tryz.prog 75 [.slice p7 l8 l9,.bool true] true [(false,[.int .i64]),(false,[.int .i64])] <| fun n10 n11 =>
 T.stores ((a5.add 2).add 1) [vI n10] <|
 T.again 0 [vI n11,vI 1])
 (T.again 0 [vI 0,vI 0]))
 (cond (n3==(5:Int))
 (cond (n3==(5:Int))
 (T.need (((0:Int)≤(0:Int))∧((0:Int)<(ll10:Int))) <|
 T.osome pp10 <| fun a6 =>
 T.loads a6 [.slice 101] <| fun p7 l8 l9 =>
 T.call Tryz.prog 75 [.slice p7 l8 l9,.bool true] true [(false,[.int .i64]),(false,[.int .i64])] <| fun n10 n11 =>
 T.stores ((a5.add 2).add 1) [vI n10] <|
 T.again 0 [vI n11,vI 1])
 (T.again 0 [vI 0,vI 0]))
 (cond (n3==(7:Int))
 (T.need (((0:Int)≤(0:Int))∧((0:Int)<(ll10:Int))) <|
 T.osome pp10 <| fun a6 =>
 T.loads a6 [.slice 101] <| fun p7 l8 l9 =>
 T.call Tryz.prog 75 [.slice p7 l8 l9,.bool true] true [(false,[.int .i64]),(false,[.int .i64])] <| fun n10 n11 =>
 T.stores ((a5.add 2).add 1) [vI n10] <|
 T.again 0 [vI n11,vI 1])
 (T.again 0 [vI 0,vI 0])))))
 (cond (n3==(8:Int))
 (cond (n3==(8:Int))
 (T.need (((0:Int)≤(0:Int))∧((0:Int)<(ll10:Int))) <|
 T.osome pp10 <| fun a6 =>
 T.loads a6 [.slice 101] <| fun p7 l8 l9 =>
 T.call Tryz.prog 75 [.slice p7 l8 l9,.bool false] true [(false,[.int .i64]),(false,[.int .i64])] <| fun n10 n11 =>
 T.stores ((a5.add 2).add 1) [vI n10] <|
 T.again 0 [vI n11,vI 1])
 (cond (n3==(3:Int))
 (cond (n3==(3:Int))
 (T.need (((0:Int)≤(0:Int))∧((0:Int)<(ll10:Int))) <|
 T.osome pp10 <| fun a6 =>
 T.loads a6 [.slice 101] <| fun p7 l8 l9 =>
 T.call Tryz.prog 75 [.slice p7 l8 l9,.bool true] true [(false,[.int .i64]),(false,[.int .i64])] <| fun n10 n11 =>
 T.stores ((a5.add 2).add 1) [vI n10] <|
 T.again 0 [vI n11,vI 1])
 (T.again 0 [vI 0,vI 0]))
 (cond (n3==(5:Int))
 (cond (n3==(5:Int))
 (T.need (((0:Int)≤(0:Int))∧((0:Int)<(ll10:Int))) <|
 T.osome pp10 <| fun a6 =>
 T.loads a6 [.slice 101] <| fun p7 l8 l9 =>
 T.call Tryz.prog 75 [.slice p7 l8 l9,.bool true] true [(false,[.int .i64]),(false,[.int .i64])] <| fun n10 n11 =>
 T.stores ((a5.add 2).add 1) [vI n10] <|
 T.again 0 [vI n11,vI 1])
 (T.again 0 [vI 0,vI 0]))
 (cond (n3==(7:Int))
 (T.need (((0:Int)≤(0:Int))∧((0:Int)<(ll10:Int))) <|
 T.osome pp10 <| fun a6 =>
 T.loads a6 [.slice 101] <| fun p7 l8 l9 =>
 T.call Tryz.prog 75 [.slice p7 l8 l9,.bool true] true [(false,[.int .i64]),(false,[.int .i64])] <| fun n10 n11 =>
 T.stores ((a5.add 2).add 1) [vI n10] <|
 T.again 0 [vI n11,vI 1])
 (T.again 0 [vI 0,vI 0])))))
 (cond (n3==(10:Int))
 (cond (n3==(10:Int))
 (T.need (((0:Int)≤(0:Int))∧((0:Int)<(ll10:Int))) <|
 T.osome pp10 <| fun a6 =>
 T.loads a6 [.slice 101] <| fun p7 l8 l9 =>
 T.call Tryz.prog 75 [.slice p7 l8 l9,.bool false] true [(false,[.int .i64]),(false,[.int .i64])] <| fun n10 n11 =>
 T.stores ((a5.add 2).add 1) [vI n10] <|
 T.again 0 [vI n11,vI 1])
 (cond (n3==(3:Int))
 (cond (n3==(3:Int))
 (T.need (((0:Int)≤(0:Int))∧((0:Int)<(ll10:Int))) <|
 T.osome pp10 <| fun a6 =>
 T.loads a6 [.slice 101] <| fun p7 l8 l9 =>
 T.call Tryz.prog 75 [.slice p7 l8 l9,.bool true] true [(false,[.int .i64]),(false,[.int .i64])] <| fun n10 n11 =>
 T.stores ((a5.add 2).add 1) [vI n10] <|
 T.again 0 [vI n11,vI 1])
 (T.again 0 [vI 0,vI 0]))
 (cond (n3==(5:Int))
 (cond (n3==(5:Int))
 (T.need (((0:Int)≤(0:Int))∧((0:Int)<(ll10:Int))) <|
 T.osome pp10 <| fun a6 =>
 T.loads a6 [.slice 101] <| fun p7 l8 l9 =>
 T.call Tryz.prog 75 [.slice p7 l8 l9,.bool true] true [(false,[.int .i64]),(false,[.int .i64])] <| fun n10 n11 =>
 T.stores ((a5.add 2).add 1) [vI n10] <|
 T.again 0 [vI n11,vI 1])
 (T.again 0 [vI 0,vI 0]))
 (cond (n3==(7:Int))
 (T.need (((0:Int)≤(0:Int))∧((0:Int)<(ll10:Int))) <|
 T.osome pp10 <| fun a6 =>
 T.loads a6 [.slice 101] <| fun p7 l8 l9 =>
 T.call Tryz.prog 75 [.slice p7 l8 l9,.bool true] true [(false,[.int .i64]),(false,[.int .i64])] <| fun n10 n11 =>
 T.stores ((a5.add 2).add 1) [vI n10] <|
 T.again 0 [vI n11,vI 1])
 (T.again 0 [vI 0,vI 0])))))
 (cond (n3==(11:Int))
 (cond (n3==(11:Int))
 (T.need (((0:Int)≤(0:Int))∧((0:Int)<(ll10:Int))) <|
 T.osome pp10 <| fun a6 =>
 T.loads a6 [.slice 101] <| fun p7 l8 l9 =>
 T.call Tryz.prog 75 [.slice p7 l8 l9,.bool false] true [(false,[.int .i64]),(false,[.int .i64])] <| fun n10 n11 =>
 T.stores ((a5.add 2).add 1) [vI n10] <|
 T.again 0 [vI n11,vI 1])
 (cond (n3==(3:Int))
 (cond (n3==(3:Int))
 (T.need (((0:Int)≤(0:Int))∧((0:Int)<(ll10:Int))) <|
 T.osome pp10 <| fun a6 =>
 T.loads a6 [.slice 101] <| fun p7 l8 l9 =>
 T.call Tryz.prog 75 [.slice p7 l8 l9,.bool true] true [(false,[.int .i64]),(false,[.int .i64])] <| fun n10 n11 =>
 T.stores ((a5.add 2).add 1) [vI n10] <|
 T.again 0 [vI n11,vI 1])
 (T.again 0 [vI 0,vI 0]))
 (cond (n3==(5:Int))
 (cond (n3==(5:Int))
 (T.need (((0:Int)≤(0:Int))∧((0:Int)<(ll10:Int))) <|
 T.osome pp10 <| fun a6 =>
 T.loads a6 [.slice 101] <| fun p7 l8 l9 =>
 T.call Tryz.prog 75 [.slice p7 l8 l9,.bool true] true [(false,[.int .i64]),(false,[.int .i64])] <| fun n10 n11 =>
 T.stores ((a5.add 2).add 1) [vI n10] <|
 T.again 0 [vI n11,vI 1])
 (T.again 0 [vI 0,vI 0]))
 (cond (n3==(7:Int))
 (T.need (((0:Int)≤(0:Int))∧((0:Int)<(ll10:Int))) <|
 T.osome pp10 <| fun a6 =>
 T.loads a6 [.slice 101] <| fun p7 l8 l9 =>
 T.call Tryz.prog 75 [.slice p7 l8 l9,.bool true] true [(false,[.int .i64]),(false,[.int .i64])] <| fun n10 n11 =>
 T.stores ((a5.add 2).add 1) [vI n10] <|
 T.again 0 [vI n11,vI 1])
 (T.again 0 [vI 0,vI 0])))))
 (cond (n3==(13:Int))
 (T.need (((0:Int)≤(0:Int))∧((0:Int)<(ll10:Int))) <|
 T.osome pp10 <| fun a6 =>
 T.loads a6 [.slice 101] <| fun p7 l8 l9 =>
 T.call Tryz.prog 75 [.slice p7 l8 l9,.bool false] true [(false,[.int .i64]),(false,[.int .i64])] <| fun n10 n11 =>
 T.stores ((a5.add 2).add 1) [vI n10] <|
 T.again 0 [vI n11,vI 1])
 (cond (n3==(3:Int))
 (cond (n3==(3:Int))
 (T.need (((0:Int)≤(0:Int))∧((0:Int)<(ll10:Int))) <|
 T.osome pp10 <| fun a6 =>
 T.loads a6 [.slice 101] <| fun p7 l8 l9 =>
 T.call Tryz.prog 75 [.slice p7 l8 l9,.bool true] true [(false,[.int .i64]),(false,[.int .i64])] <| fun n10 n11 =>
 T.stores ((a5.add 2).add 1) [vI n10] <|
 T.again 0 [vI n11,vI 1])
 (T.again 0 [vI 0,vI 0]))
 (cond (n3==(5:Int))
 (cond (n3==(5:Int))
 (T.need (((0:Int)≤(0:Int))∧((0:Int)<(ll10:Int))) <|
 T.osome pp10 <| fun a6 =>
 T.loads a6 [.slice 101] <| fun p7 l8 l9 =>
 T.call Tryz.prog 75 [.slice p7 l8 l9,.bool true] true [(false,[.int .i64]),(false,[.int .i64])] <| fun n10 n11 =>
 T.stores ((a5.add 2).add 1) [vI n10] <|
 T.again 0 [vI n11,vI 1])
 (T.again 0 [vI 0,vI 0]))
 (cond (n3==(7:Int))
 (T.need (((0:Int)≤(0:Int))∧((0:Int)<(ll10:Int))) <|
 T.osome pp10 <| fun a6 =>
 T.loads a6 [.slice 101] <| fun p7 l8 l9 =>
 T.call Tryz.prog 75 [.slice p7 l8 l9,.bool true] true [(false,[.int .i64]),(false,[.int .i64])] <| fun n10 n11 =>
 T.stores ((a5.add 2).add 1) [vI n10] <|
 T.again 0 [vI n11,vI 1])
 (T.again 0 [vI 0,vI 0]))))))))))) <| fun n6 n7 =>
 cond (n6 != (0:Int))
 (T.stores a2 [vI 0,.string ⟨#[]⟩,vI 0,vI 0,vI 0,.int .i32 0,vI 0,.slice none 0 0,.int .u32 0,vI 0] <|
 T.loads a2 yI <| fun n8 s9 n10 n11 n12 n13 n14 p15 l16 l17 n18 n19 =>
 T.ret (.tuple #[.agg #[vI n8,.string s9,vI n10,vI n11,vI n12,.int .i32 n13,vI n14,.slice p15 l16 l17,.int .u32 n18,vI n19],vI n6]))
 (T.join [(false,[.int .i64]),(false,[.int .i64]),(false,[.int .i64])]
 (cond (n3==(4:Int))
 (T.need (((0:Int)≤(1:Int))∧((1:Int)<(ll10:Int))) <|
 T.osome pp10 <| fun a8 =>
 T.loads (a8.add 1) [.slice 101] <| fun p9 l10 l11 =>
 T.call Tryz.prog 75 [.slice p9 l10 l11,.bool false] true [(false,[.int .i64]),(false,[.int .i64])] <| fun n12 n13 =>
 T.stores ((a5.add 2).add 2) [vI n12] <|
 T.again 0 [vI 0,vI n13,vI 0])
 (cond (n3==(5:Int))
 (cond (n3==(5:Int))
 (T.need (((0:Int)≤(1:Int))∧((1:Int)<(ll10:Int))) <|
 T.osome pp10 <| fun a8 =>
 T.loads (a8.add 1) [.slice 101] <| fun p9 l10 l11 =>
 T.call Tryz.prog 75 [.slice p9 l10 l11,.bool true] true [(false,[.int .i64]),(false,[.int .i64])] <| fun n12 n13 =>
 T.stores ((a5.add 2).add 2) [vI n12] <|
 T.again 0 [vI 0,vI n13,vI 0])
 (cond (n3==(7:Int))
 (T.need (((0:Int)≤(1:Int))∧((1:Int)<(ll10:Int))) <|
 T.osome pp10 <| fun a8 =>
 T.loads (a8.add 1) [.slice 101] <| fun p9 l10 l11 =>
 T.call Tryz.prog 75 [.slice p9 l10 l11,.bool false] true [(false,[.int .i64]),(false,[.int .i64])] <| fun n12 n13 =>
 T.stores ((a5.add 2).add 2) [vI n12] <|
 cond (n13==(0:Int))
 (T.need (((0:Int)≤(2:Int))∧((2:Int)<(ll10:Int))) <|
 T.osome pp10 <| fun a14 =>
 T.loads (a14.add 2) [.slice 101] <| fun p15 l16 l17 =>
 T.call Tryz.prog 75 [.slice p15 l16 l17,.bool false] true [(false,[.int .i64]),(false,[.int .i64])] <| fun n18 n19 =>
 T.again 0 [vI 0,vI n19,vI n18])
 (T.again 0 [vI 0,vI n13,vI 0]))
 (cond (n3==(8:Int))
 (T.need (((0:Int)≤(1:Int))∧((1:Int)<(ll10:Int))) <|
 T.osome pp10 <| fun a8 =>
 T.loads (a8.add 1) [.slice 101] <| fun p9 l10 l11 =>
 T.call Tryz.prog 76 [.slice p9 l10 l11,vI (-128:Int),vI 127] true [(false,[.int .i64]),(false,[.int .i64])] <| fun n12 n13 =>
 T.again 0 [vI 0,vI n13,vI n12])
 (cond (n3==(9:Int))
 (T.need (((0:Int)≤(0:Int))∧((0:Int)<(ll10:Int))) <|
 T.osome pp10 <| fun a8 =>
 T.loads a8 [.slice 101] <| fun p9 l10 l11 =>
 T.call Tryz.prog 76 [.slice p9 l10 l11,vI 0,vI 255] true [(false,[.int .i64]),(false,[.int .i64])] <| fun n12 n13 =>
 T.again 0 [vI 0,vI n13,vI n12])
 (cond (n3==(11:Int))
 (T.need (((0:Int)≤(1:Int))∧((1:Int)<(ll10:Int))) <|
 T.osome pp10 <| fun a8 =>
 T.loads (a8.add 1) [.slice 101] <| fun p9 l10 l11 =>
 T.need (((0:Int)≤(0:Int))∧((0:Int)<(l10:Int))) <|
 T.osome p9 <| fun a12 =>
 T.loads a12 [.int .i64] <| fun n13 =>
 cond (n13 != (3:Int))
 (T.stores a2 [vI 0,.string ⟨#[]⟩,vI 0,vI 0,vI 0,.int .i32 0,vI 0,.slice none 0 0,.int .u32 0,vI 0] <|
 T.loads a2 yI <| fun n14 s15 n16 n17 n18 n19 n20 p21 l22 l23 n24 n25 =>
 T.ret (.tuple #[.agg #[vI n14,.string s15,vI n16,vI n17,vI n18,.int .i32 n19,vI n20,.slice p21 l22 l23,.int .u32 n24,vI n25],vI 20]))
 (T.need (((0:Int)≤(1:Int))∧((1:Int)<(ll10:Int))) <|
 T.osome pp10 <| fun a14 =>
 T.loads (a14.add 1) [.slice 101] <| fun p15 l16 l17 =>
 T.need (((0:Int)≤(0:Int))∧((0:Int)<(l16:Int))) <|
 T.osome p15 <| fun a18 =>
 T.loads (a18.add 1) [.string] <| fun s19 =>
 cond (!((ByteArray.toList s19)==[({ toBitVec:=61#8 })]))
 (T.stores a2 [vI 0,.string ⟨#[]⟩,vI 0,vI 0,vI 0,.int .i32 0,vI 0,.slice none 0 0,.int .u32 0,vI 0] <|
 T.loads a2 yI <| fun n20 s21 n22 n23 n24 n25 n26 p27 l28 l29 n30 n31 =>
 T.ret (.tuple #[.agg #[vI n20,.string s21,vI n22,vI n23,vI n24,.int .i32 n25,vI n26,.slice p27 l28 l29,.int .u32 n30,vI n31],vI 20]))
 (T.need (((0:Int)≤(1:Int))∧((1:Int)<(ll10:Int))) <|
 T.osome pp10 <| fun a20 =>
 T.loads (a20.add 1) [.slice 101] <| fun p21 l22 l23 =>
 T.need (((0:Int)≤(1:Int))∧(((1:Int)≤(l22:Int))∧((l22:Int)≤(l23:Int)))) <|
 T.call Tryz.prog 77 [.slice (if (l23=1) then p21 else (Option.map (fun a=>Addr.add a 4) p21)) ((Int.toNat (l22:Int))-1) (l23-1)] true [(true,[.slice 50,.int .u32]),(false,[.int .i64])] <| fun p24 l25 l26 n27 n28 =>
 T.stores (a5.add 7) [.slice p24 l25 l26,.int .u32 n27] <|
 T.again 0 [vI 0,vI n28,vI 0])))
 (cond (n3==(10:Int))
 (cond (n3==(10:Int))
 (T.need (((0:Int)≤n7)∧(n7<(ll10:Int))) <|
 T.osome pp10 <| fun a8 =>
 T.loads (a8.add ((Int.toNat n7)*1)) [.slice 101] <| fun p9 l10 l11 =>
 T.call Tryz.prog 77 [.slice p9 l10 l11] true [(true,[.slice 50,.int .u32]),(false,[.int .i64])] <| fun p12 l13 l14 n15 n16 =>
 T.stores (a5.add 7) [.slice p12 l13 l14,.int .u32 n15] <|
 T.again 0 [vI 0,vI n16,vI 0])
 (T.again 0 [vI 0,vI n6,vI 0]))
 (cond (n3==(12:Int))
 (cond (n3==(12:Int))
 (T.need (((0:Int)≤n7)∧(n7<(ll10:Int))) <|
 T.osome pp10 <| fun a8 =>
 T.loads (a8.add ((Int.toNat n7)*1)) [.slice 101] <| fun p9 l10 l11 =>
 T.call Tryz.prog 77 [.slice p9 l10 l11] true [(true,[.slice 50,.int .u32]),(false,[.int .i64])] <| fun p12 l13 l14 n15 n16 =>
 T.stores (a5.add 7) [.slice p12 l13 l14,.int .u32 n15] <|
 T.again 0 [vI 0,vI n16,vI 0])
 (T.again 0 [vI 0,vI n6,vI 0]))
 (cond (n3==(13:Int))
 (T.need (((0:Int)≤n7)∧(n7<(ll10:Int))) <|
 T.osome pp10 <| fun a8 =>
 T.loads (a8.add ((Int.toNat n7)*1)) [.slice 101] <| fun p9 l10 l11 =>
 T.call Tryz.prog 77 [.slice p9 l10 l11] true [(true,[.slice 50,.int .u32]),(false,[.int .i64])] <| fun p12 l13 l14 n15 n16 =>
 T.stores (a5.add 7) [.slice p12 l13 l14,.int .u32 n15] <|
 T.again 0 [vI 0,vI n16,vI 0])
 (T.again 0 [vI 0,vI n6,vI 0])))))))))
 (cond (n3==(6:Int))
 (T.need (((0:Int)≤(1:Int))∧((1:Int)<(ll10:Int))) <|
 T.osome pp10 <| fun a8 =>
 T.loads (a8.add 1) [.slice 101] <| fun p9 l10 l11 =>
 T.call Tryz.prog 75 [.slice p9 l10 l11,.bool true] true [(false,[.int .i64]),(false,[.int .i64])] <| fun n12 n13 =>
 T.stores ((a5.add 2).add 2) [vI n12] <|
 T.again 0 [vI 0,vI n13,vI 0])
 (cond (n3==(7:Int))
 (T.need (((0:Int)≤(1:Int))∧((1:Int)<(ll10:Int))) <|
 T.osome pp10 <| fun a8 =>
 T.loads (a8.add 1) [.slice 101] <| fun p9 l10 l11 =>
 T.call Tryz.prog 75 [.slice p9 l10 l11,.bool false] true [(false,[.int .i64]),(false,[.int .i64])] <| fun n12 n13 =>
 T.stores ((a5.add 2).add 2) [vI n12] <|
 cond (n13==(0:Int))
 (T.need (((0:Int)≤(2:Int))∧((2:Int)<(ll10:Int))) <|
 T.osome pp10 <| fun a14 =>
 T.loads (a14.add 2) [.slice 101] <| fun p15 l16 l17 =>
 T.call Tryz.prog 75 [.slice p15 l16 l17,.bool false] true [(false,[.int .i64]),(false,[.int .i64])] <| fun n18 n19 =>
 T.again 0 [vI 0,vI n19,vI n18])
 (T.again 0 [vI 0,vI n13,vI 0]))
 (cond (n3==(8:Int))
 (T.need (((0:Int)≤(1:Int))∧((1:Int)<(ll10:Int))) <|
 T.osome pp10 <| fun a8 =>
 T.loads (a8.add 1) [.slice 101] <| fun p9 l10 l11 =>
 T.call Tryz.prog 76 [.slice p9 l10 l11,vI (-128:Int),vI 127] true [(false,[.int .i64]),(false,[.int .i64])] <| fun n12 n13 =>
 T.again 0 [vI 0,vI n13,vI n12])
 (cond (n3==(9:Int))
 (T.need (((0:Int)≤(0:Int))∧((0:Int)<(ll10:Int))) <|
 T.osome pp10 <| fun a8 =>
 T.loads a8 [.slice 101] <| fun p9 l10 l11 =>
 T.call Tryz.prog 76 [.slice p9 l10 l11,vI 0,vI 255] true [(false,[.int .i64]),(false,[.int .i64])] <| fun n12 n13 =>
 T.again 0 [vI 0,vI n13,vI n12])
 (cond (n3==(11:Int))
 (T.need (((0:Int)≤(1:Int))∧((1:Int)<(ll10:Int))) <|
 T.osome pp10 <| fun a8 =>
 T.loads (a8.add 1) [.slice 101] <| fun p9 l10 l11 =>
 T.need (((0:Int)≤(0:Int))∧((0:Int)<(l10:Int))) <|
 T.osome p9 <| fun a12 =>
 T.loads a12 [.int .i64] <| fun n13 =>
 cond (n13 != (3:Int))
 (T.stores a2 [vI 0,.string ⟨#[]⟩,vI 0,vI 0,vI 0,.int .i32 0,vI 0,.slice none 0 0,.int .u32 0,vI 0] <|
 T.loads a2 yI <| fun n14 s15 n16 n17 n18 n19 n20 p21 l22 l23 n24 n25 =>
 T.ret (.tuple #[.agg #[vI n14,.string s15,vI n16,vI n17,vI n18,.int .i32 n19,vI n20,.slice p21 l22 l23,.int .u32 n24,vI n25],vI 20]))
 (T.need (((0:Int)≤(1:Int))∧((1:Int)<(ll10:Int))) <|
 T.osome pp10 <| fun a14 =>
 T.loads (a14.add 1) [.slice 101] <| fun p15 l16 l17 =>
 T.need (((0:Int)≤(0:Int))∧((0:Int)<(l16:Int))) <|
 T.osome p15 <| fun a18 =>
 T.loads (a18.add 1) [.string] <| fun s19 =>
 cond (!((ByteArray.toList s19)==[({ toBitVec:=61#8 })]))
 (T.stores a2 [vI 0,.string ⟨#[]⟩,vI 0,vI 0,vI 0,.int .i32 0,vI 0,.slice none 0 0,.int .u32 0,vI 0] <|
 T.loads a2 yI <| fun n20 s21 n22 n23 n24 n25 n26 p27 l28 l29 n30 n31 =>
 T.ret (.tuple #[.agg #[vI n20,.string s21,vI n22,vI n23,vI n24,.int .i32 n25,vI n26,.slice p27 l28 l29,.int .u32 n30,vI n31],vI 20]))
 (T.need (((0:Int)≤(1:Int))∧((1:Int)<(ll10:Int))) <|
 T.osome pp10 <| fun a20 =>
 T.loads (a20.add 1) [.slice 101] <| fun p21 l22 l23 =>
 T.need (((0:Int)≤(1:Int))∧(((1:Int)≤(l22:Int))∧((l22:Int)≤(l23:Int)))) <|
 T.call Tryz.prog 77 [.slice (if (l23=1) then p21 else (Option.map (fun a=>Addr.add a 4) p21)) ((Int.toNat (l22:Int))-1) (l23-1)] true [(true,[.slice 50,.int .u32]),(false,[.int .i64])] <| fun p24 l25 l26 n27 n28 =>
 T.stores (a5.add 7) [.slice p24 l25 l26,.int .u32 n27] <|
 T.again 0 [vI 0,vI n28,vI 0])))
 (cond (n3==(10:Int))
 (cond (n3==(10:Int))
 (T.need (((0:Int)≤n7)∧(n7<(ll10:Int))) <|
 T.osome pp10 <| fun a8 =>
 T.loads (a8.add ((Int.toNat n7)*1)) [.slice 101] <| fun p9 l10 l11 =>
 T.call Tryz.prog 77 [.slice p9 l10 l11] true [(true,[.slice 50,.int .u32]),(false,[.int .i64])] <| fun p12 l13 l14 n15 n16 =>
 T.stores (a5.add 7) [.slice p12 l13 l14,.int .u32 n15] <|
 T.again 0 [vI 0,vI n16,vI 0])
 (T.again 0 [vI 0,vI n6,vI 0]))
 (cond (n3==(12:Int))
 (cond (n3==(12:Int))
 (T.need (((0:Int)≤n7)∧(n7<(ll10:Int))) <|
 T.osome pp10 <| fun a8 =>
 T.loads (a8.add ((Int.toNat n7)*1)) [.slice 101] <| fun p9 l10 l11 =>
 T.call Tryz.prog 77 [.slice p9 l10 l11] true [(true,[.slice 50,.int .u32]),(false,[.int .i64])] <| fun p12 l13 l14 n15 n16 =>
 T.stores (a5.add 7) [.slice p12 l13 l14,.int .u32 n15] <|
 T.again 0 [vI 0,vI n16,vI 0])
 (T.again 0 [vI 0,vI n6,vI 0]))
 (cond (n3==(13:Int))
 (T.need (((0:Int)≤n7)∧(n7<(ll10:Int))) <|
 T.osome pp10 <| fun a8 =>
 T.loads (a8.add ((Int.toNat n7)*1)) [.slice 101] <| fun p9 l10 l11 =>
 T.call Tryz.prog 77 [.slice p9 l10 l11] true [(true,[.slice 50,.int .u32]),(false,[.int .i64])] <| fun p12 l13 l14 n15 n16 =>
 T.stores (a5.add 7) [.slice p12 l13 l14,.int .u32 n15] <|
 T.again 0 [vI 0,vI n16,vI 0])
 (T.again 0 [vI 0,vI n6,vI 0]))))))))))) <| fun n8 n9 n10 =>
 cond (n9 != (0:Int))
 (T.stores a2 [vI 0,.string ⟨#[]⟩,vI 0,vI 0,vI 0,.int .i32 0,vI 0,.slice none 0 0,.int .u32 0,vI 0] <|
 T.loads a2 yI <| fun n11 s12 n13 n14 n15 n16 n17 p18 l19 l20 n21 n22 =>
 T.ret (.tuple #[.agg #[vI n11,.string s12,vI n13,vI n14,vI n15,.int .i32 n16,vI n17,.slice p18 l19 l20,.int .u32 n21,vI n22],vI n9]))
 (T.stores ((a5.add 2).add 3) [.int .i32 (IntKind.wrap .i32 n10)] <|
 T.loads a5 yI <| fun n11 s12 n13 n14 n15 n16 n17 p18 l19 l20 n21 n22 =>
 T.stores a2 [vI n11,.string s12,vI n13,vI n14,vI n15,.int .i32 n16,vI n17,.slice p18 l19 l20,.int .u32 n21,vI n22] <|
 T.loads a2 yI <| fun n23 s24 n25 n26 n27 n28 n29 p30 l31 l32 n33 n34 =>
 T.ret (.tuple #[.agg #[vI n23,.string s24,vI n25,vI n26,vI n27,.int .i32 n28,vI n29,.slice p30 l31 l32,.int .u32 n33,vI n34],vI 0]))))
theorem t_spandrelref8_code_eq (n0:Int) (pp10:Option Addr) (ll10 cc10:Nat):xfun Tryz.prog [1022,1047] Tryz.f51 [vI n0,.slice pp10 ll10 cc10]=t_spandrelref8_code n0 pp10 ll10 cc10:=by kernel_rfl
end Go.Sx
