/- Trees of functions, each checked by the kernel against the code. No condition. -/
import Derived.Test.YtgnhjkofpmchpaaGreatDoorSxF
import Derived.Test.YtgnhjkofpmchpaaGreatDoorProg
import Derived.KernelRfl
set_option linter.unusedVariables false
set_option linter.unusedSimpArgs false
set_option linter.deprecated false
set_option maxRecDepth 100000
namespace Go.Sx
open Go.Proofs
def t_spandrelref8_Right_s0 (k:Int) (s:ByteArray) (o:Int) (a:Int) (b:Int) (n:Int) (f:Int) (p:Option Addr) (l:Nat) (c:Nat) (m:Int) (q:Int):T :=
 T.new [vI k,.string s,vI o,vI a,vI b,.int .i32 n,vI f,.slice p l c,.int .u32 m,vI q] 54 <| fun a1 =>
 T.join [(false,[.bool])]
 (T.loads a1 [.int .i64] <| fun n2 =>
 cond (n2==(1:Int))
 (T.loads (a1.add 1) [.string] <| fun s3 =>
 T.call Tryz.prog 39 [.string s3] false [(false,[.bool])] <| fun b4 =>
 cond b4
 (T.loads a1 yI <| fun n5 s6 n7 n8 n9 n10 n11 p12 l13 l14 n15 n16 =>
 T.call Tryz.prog 40 [.agg #[vI n5,.string s6,vI n7,vI n8,vI n9,.int .i32 n10,vI n11,.slice p12 l13 l14,.int .u32 n15,vI n16],.bool false,.bool true,.bool true,.bool true] false [(false,[.bool])] <| fun b17 =>
 T.again 0 [.bool b17])
 (T.again 0 [.bool false]))
 (cond (n2==(2:Int))
 (T.loads (a1.add 2) [.int .i64,.int .i64,.int .i64,.int .i32,.int .i64] <| fun n3 n4 n5 n6 n7 =>
 T.new [vI 0,vI 0,vI 0,.int .i32 0,vI 0] 52 <| fun a8 =>
 T.stores a8 [vI n3,vI n4,vI n5,.int .i32 n6,vI n7] <|
 T.loads (a8.add 4) [.int .i64] <| fun n9 =>
 T.join []
 (T.loads a8 [.int .i64] <| fun n10 =>
 T.call Tryz.prog 41 [vI n10] false [(false,[.bool])] <| fun b11 =>
 cond b11
 (T.stores (a8.add 4) [vI 1] <|
 T.again 1 [])
 (T.again 1 [])) <| T.join [(false,[.bool])]
 (cond (n9==(0:Int))
 (T.loads a8 [.int .i64,.int .i64,.int .i64,.int .i32,.int .i64] <| fun n10 n11 n12 n13 n14 =>
 T.call Tryz.prog 42 [.agg #[vI n10,vI n11,vI n12,.int .i32 n13,vI n14]] false [(false,[.int .i64])] <| fun n15 =>
 cond (n15==(0:Int))
 (T.loads a1 yI <| fun n16 s17 n18 n19 n20 n21 n22 p23 l24 l25 n26 n27 =>
 T.call Tryz.prog 40 [.agg #[vI n16,.string s17,vI n18,vI n19,vI n20,.int .i32 n21,vI n22,.slice p23 l24 l25,.int .u32 n26,vI n27],.bool true,.bool false,.bool false,.bool true] false [(false,[.bool])] <| fun b28 =>
 T.again 1 [.bool b28])
 (T.again 1 [.bool false]))
 (T.again 1 [.bool false])) <| fun b10 =>
 T.loads a8 [.int .i64] <| fun n11 =>
 T.call Tryz.prog 43 [vI n11] false [(false,[.bool])] <| fun b12 =>
 cond b12
 (cond b10
 (T.loads (a8.add 3) [.int .i32] <| fun n13 =>
 cond (n13==(0:Int))
 (T.loads (a1.add 7) [.slice 50,.int .u32] <| fun p14 l15 l16 n17 =>
 T.call Tryz.prog 44 [.agg #[.slice p14 l15 l16,.int .u32 n17]] false [(false,[.bool])] <| fun b18 =>
 T.again 0 [.bool b18])
 (T.again 0 [.bool false]))
 (T.again 0 [.bool false]))
 (cond b10
 (T.loads a1 yI <| fun n13 s14 n15 n16 n17 n18 n19 p20 l21 l22 n23 n24 =>
 T.call Tryz.prog 40 [.agg #[vI n13,.string s14,vI n15,vI n16,vI n17,.int .i32 n18,vI n19,.slice p20 l21 l22,.int .u32 n23,vI n24],.bool false,.bool false,.bool true,.bool false] false [(false,[.bool])] <| fun b25 =>
 T.again 0 [.bool b25])
 (T.again 0 [.bool false])))
 (cond (n2==(3:Int))
 (T.loads (a1.add 9) [.int .i64] <| fun n3 =>
 T.call Tryz.prog 45 [vI n3] false [(false,[.bool])] <| fun b4 =>
 cond b4
 (T.loads a1 yI <| fun n5 s6 n7 n8 n9 n10 n11 p12 l13 l14 n15 n16 =>
 T.call Tryz.prog 40 [.agg #[vI n5,.string s6,vI n7,vI n8,vI n9,.int .i32 n10,vI n11,.slice p12 l13 l14,.int .u32 n15,vI n16],.bool true,.bool true,.bool true,.bool false] false [(false,[.bool])] <| fun b17 =>
 T.again 0 [.bool b17])
 (T.again 0 [.bool false]))
 (cond (n2==(4:Int))
 (T.loads a1 yI <| fun n3 s4 n5 n6 n7 n8 n9 p10 l11 l12 n13 n14 =>
 T.call Tryz.prog 40 [.agg #[vI n3,.string s4,vI n5,vI n6,vI n7,.int .i32 n8,vI n9,.slice p10 l11 l12,.int .u32 n13,vI n14],.bool true,.bool true,.bool true,.bool true] false [(false,[.bool])] <| fun b15 =>
 T.again 0 [.bool b15])
 (cond (n2==(5:Int))
 (T.again 0 [.bool false])
 (cond (n2==(6:Int))
 (T.again 0 [.bool false])
 (cond (n2==(7:Int))
 (T.again 0 [.bool false])
 (T.again 0 [.bool false])))))))) <| fun b2 =>
 cond (!b2)
 (T.ret (vI 31))
 (T.ret (vI 0))
theorem t_spandrelref8_Right_s0_eq (k:Int) (s:ByteArray) (o:Int) (a:Int) (b:Int) (n:Int) (f:Int) (p:Option Addr) (l:Nat) (c:Nat) (m:Int) (q:Int):xfun Tryz.prog [1012,1013,1026] Tryz.f20 [.agg #[vI k,.string s,vI o,vI a,vI b,.int .i32 n,vI f,.slice p l c,.int .u32 m,vI q],vI 0]=t_spandrelref8_Right_s0 k s o a b n f p l c m q:=by kernel_rfl
def t_spandrelref8_Right_s1 (k:Int) (s:ByteArray) (o:Int) (a:Int) (b:Int) (n:Int) (f:Int) (p:Option Addr) (l:Nat) (c:Nat) (m:Int) (q:Int):T :=
 T.new [vI k,.string s,vI o,vI a,vI b,.int .i32 n,vI f,.slice p l c,.int .u32 m,vI q] 54 <| fun a1 =>
 T.join [(false,[.bool])]
 (T.loads a1 [.int .i64] <| fun n2 =>
 cond (n2==(1:Int))
 (T.loads (a1.add 1) [.string] <| fun s3 =>
 T.call Tryz.prog 39 [.string s3] false [(false,[.bool])] <| fun b4 =>
 cond b4
 (T.loads a1 yI <| fun n5 s6 n7 n8 n9 n10 n11 p12 l13 l14 n15 n16 =>
 T.call Tryz.prog 40 [.agg #[vI n5,.string s6,vI n7,vI n8,vI n9,.int .i32 n10,vI n11,.slice p12 l13 l14,.int .u32 n15,vI n16],.bool false,.bool true,.bool true,.bool true] false [(false,[.bool])] <| fun b17 =>
 T.again 0 [.bool b17])
 (T.again 0 [.bool false]))
 (cond (n2==(2:Int))
 (T.loads (a1.add 2) [.int .i64,.int .i64,.int .i64,.int .i32,.int .i64] <| fun n3 n4 n5 n6 n7 =>
 T.new [vI 0,vI 0,vI 0,.int .i32 0,vI 0] 52 <| fun a8 =>
 T.stores a8 [vI n3,vI n4,vI n5,.int .i32 n6,vI n7] <|
 T.loads (a8.add 4) [.int .i64] <| fun n9 =>
 T.join []
 (T.loads a8 [.int .i64] <| fun n10 =>
 T.call Tryz.prog 41 [vI n10] false [(false,[.bool])] <| fun b11 =>
 cond b11
 (T.stores (a8.add 4) [vI 1] <|
 T.again 1 [])
 (T.again 1 [])) <| T.join [(false,[.bool])]
 (T.again 1 [.bool false]) <| fun b10 =>
 T.loads a8 [.int .i64] <| fun n11 =>
 T.call Tryz.prog 43 [vI n11] false [(false,[.bool])] <| fun b12 =>
 cond b12
 (cond b10
 (T.loads (a8.add 3) [.int .i32] <| fun n13 =>
 cond (n13==(0:Int))
 (T.loads (a1.add 7) [.slice 50,.int .u32] <| fun p14 l15 l16 n17 =>
 T.call Tryz.prog 44 [.agg #[.slice p14 l15 l16,.int .u32 n17]] false [(false,[.bool])] <| fun b18 =>
 T.again 0 [.bool b18])
 (T.again 0 [.bool false]))
 (T.again 0 [.bool false]))
 (cond b10
 (T.loads a1 yI <| fun n13 s14 n15 n16 n17 n18 n19 p20 l21 l22 n23 n24 =>
 T.call Tryz.prog 40 [.agg #[vI n13,.string s14,vI n15,vI n16,vI n17,.int .i32 n18,vI n19,.slice p20 l21 l22,.int .u32 n23,vI n24],.bool false,.bool false,.bool true,.bool false] false [(false,[.bool])] <| fun b25 =>
 T.again 0 [.bool b25])
 (T.again 0 [.bool false])))
 (cond (n2==(3:Int))
 (T.loads (a1.add 9) [.int .i64] <| fun n3 =>
 T.call Tryz.prog 45 [vI n3] false [(false,[.bool])] <| fun b4 =>
 cond b4
 (T.loads a1 yI <| fun n5 s6 n7 n8 n9 n10 n11 p12 l13 l14 n15 n16 =>
 T.call Tryz.prog 40 [.agg #[vI n5,.string s6,vI n7,vI n8,vI n9,.int .i32 n10,vI n11,.slice p12 l13 l14,.int .u32 n15,vI n16],.bool true,.bool true,.bool true,.bool false] false [(false,[.bool])] <| fun b17 =>
 T.again 0 [.bool b17])
 (T.again 0 [.bool false]))
 (cond (n2==(4:Int))
 (T.again 0 [.bool false])
 (cond (n2==(5:Int))
 (T.loads (a1.add 9) [.int .i64] <| fun n3 =>
 cond (decide (n3≥(-128:Int)))
 (T.loads (a1.add 9) [.int .i64] <| fun n4 =>
 cond (decide (n4≤(255:Int)))
 (T.loads a1 yI <| fun n5 s6 n7 n8 n9 n10 n11 p12 l13 l14 n15 n16 =>
 T.call Tryz.prog 40 [.agg #[vI n5,.string s6,vI n7,vI n8,vI n9,.int .i32 n10,vI n11,.slice p12 l13 l14,.int .u32 n15,vI n16],.bool true,.bool true,.bool true,.bool false] false [(false,[.bool])] <| fun b17 =>
 T.again 0 [.bool b17])
 (T.again 0 [.bool false]))
 (T.again 0 [.bool false]))
 (cond (n2==(6:Int))
 (T.loads (a1.add 7) [.slice 50,.int .u32] <| fun p3 l4 l5 n6 =>
 T.call Tryz.prog 44 [.agg #[.slice p3 l4 l5,.int .u32 n6]] false [(false,[.bool])] <| fun b7 =>
 cond b7
 (T.loads a1 yI <| fun n8 s9 n10 n11 n12 n13 n14 p15 l16 l17 n18 n19 =>
 T.call Tryz.prog 40 [.agg #[vI n8,.string s9,vI n10,vI n11,vI n12,.int .i32 n13,vI n14,.slice p15 l16 l17,.int .u32 n18,vI n19],.bool true,.bool true,.bool false,.bool true] false [(false,[.bool])] <| fun b20 =>
 T.again 0 [.bool b20])
 (T.again 0 [.bool false]))
 (cond (n2==(7:Int))
 (T.loads (a1.add 9) [.int .i64] <| fun n3 =>
 cond (decide (n3≥(0:Int)))
 (T.loads (a1.add 9) [.int .i64] <| fun n4 =>
 cond (decide (n4≤(1048576:Int)))
 (T.loads a1 yI <| fun n5 s6 n7 n8 n9 n10 n11 p12 l13 l14 n15 n16 =>
 T.call Tryz.prog 40 [.agg #[vI n5,.string s6,vI n7,vI n8,vI n9,.int .i32 n10,vI n11,.slice p12 l13 l14,.int .u32 n15,vI n16],.bool true,.bool true,.bool true,.bool false] false [(false,[.bool])] <| fun b17 =>
 T.again 0 [.bool b17])
 (T.again 0 [.bool false]))
 (T.again 0 [.bool false]))
 (T.again 0 [.bool false])))))))) <| fun b2 =>
 cond (!b2)
 (T.ret (vI 31))
 (T.ret (vI 0))
theorem t_spandrelref8_Right_s1_eq (k:Int) (s:ByteArray) (o:Int) (a:Int) (b:Int) (n:Int) (f:Int) (p:Option Addr) (l:Nat) (c:Nat) (m:Int) (q:Int):xfun Tryz.prog [1012,1013,1026] Tryz.f20 [.agg #[vI k,.string s,vI o,vI a,vI b,.int .i32 n,vI f,.slice p l c,.int .u32 m,vI q],vI 1]=t_spandrelref8_Right_s1 k s o a b n f p l c m q:=by kernel_rfl
end Go.Sx
