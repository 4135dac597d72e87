/- Trees of functions, each checked by the kernel against the code. No condition. -/
import Derived.Test.YtfkjiiapldkoeaaGreatDoorSxF
import Derived.Test.YtfkjiiapldkoeaaGreatDoorProg
import Derived.KernelRfl
set_option linter.unusedVariables false
set_option linter.unusedSimpArgs false
set_option linter.deprecated false
set_option maxRecDepth 100000
namespace Go.Sx
open Go.Proofs
def t_item_Read (s0:ByteArray) (s1_0:ByteArray) (pp02:Option Addr) (ll02 cc02:Nat) (n1:Int):T :=
 T.new [.string s0,.string s1_0,.slice pp02 ll02 cc02] 130 <| fun a2 =>
 T.new [vI 0,.slice none 0 0,.string ⟨#[]⟩,.slice none 0 0,.int .u32 0,vI 0] 134 <| fun a3 =>
 T.join [(false,[.int .i64])]
 (cond (n1 != (1:Int))
 (T.again 0 [vI 0])
 (T.again 0 [vI n1])) <| fun n4 =>
 T.loads (a2.add 1) [.string] <| fun s5 =>
 cond ((ByteArray.toList s5)==[])
 (T.stores a3 [vI 0,.slice none 0 0,.string ⟨#[]⟩,.slice none 0 0,.int .u32 0,vI 0] <|
 T.loads a3 yT <| fun n6 p7 l8 l9 s10 p11 l12 l13 n14 n15 =>
 T.ret (.tuple #[.agg #[vI n6,.slice p7 l8 l9,.string s10,.slice p11 l12 l13,.int .u32 n14,vI n15],vI 0]))
 (T.new [vI 0,.slice none 0 0,.string ⟨#[]⟩,.slice none 0 0,.int .u32 0,vI 0] 134 <| fun a6 =>
 T.join [(false,[.int .i64]),(false,[.int .i64])]
 (T.loads (a2.add 1) [.string] <| fun s7 =>
 T.call Tryz.prog 98 [.string s7] true [(false,[.int .i64]),(false,[.bool])] <| fun n8 b9 =>
 cond b9
 (T.new [vI 0,.string ⟨#[]⟩,vI 0,vI 0,vI 0,.int .i32 0,vI 0,.slice none 0 0,.int .u32 0,vI 0] 96 <| fun a10 =>
 T.loads (a2.add 2) [.slice 174] <| fun p11 l12 l13 =>
 T.call Tryz.prog 99 [vI n8,.slice p11 l12 l13] true [(true,yI),(false,[.int .i64])] <| fun n14 s15 n16 n17 n18 n19 n20 p21 l22 l23 n24 n25 n26 =>
 T.stores a10 [vI n14,.string s15,vI n16,vI n17,vI n18,.int .i32 n19,vI n20,.slice p21 l22 l23,.int .u32 n24,vI n25] <|
 T.loads a10 yI <| fun n27 s28 n29 n30 n31 n32 n33 p34 l35 l36 n37 n38 =>
 T.sem Tryz.prog (Instr.buildSlice 23 1 #[(0,.agg #[vI n27,.string s28,vI n29,vI n30,vI n31,.int .i32 n32,vI n33,.slice p34 l35 l36,.int .u32 n37,vI n38])]) false [(false,[.slice 0])] <| fun p39 l40 l41 =>
 T.stores a6 [vI 1,.slice p39 l40 l41,.string ⟨#[]⟩,.slice none 0 0,.int .u32 0,vI 0] <|
 T.again 0 [vI 0,vI n26])
 (T.loads (a2.add 1) [.string] <| fun s10 =>
 T.loads (a2.add 2) [.slice 174] <| fun p11 l12 l13 =>
 T.call Tryz.prog 100 [.string s10,.slice p11 l12 l13] true [(true,yT),(false,[.int .i64]),(false,[.int .i64])] <| fun n14 p15 l16 l17 s18 p19 l20 l21 n22 n23 n24 n25 =>
 T.stores a6 [vI n14,.slice p15 l16 l17,.string s18,.slice p19 l20 l21,.int .u32 n22,vI n23] <|
 T.again 0 [vI n24,vI n25])) <| fun n7 n8 =>
 cond (n8 != (0:Int))
 (T.stores a3 [vI 0,.slice none 0 0,.string ⟨#[]⟩,.slice none 0 0,.int .u32 0,vI 0] <|
 T.loads a3 yT <| fun n9 p10 l11 l12 s13 p14 l15 l16 n17 n18 =>
 T.ret (.tuple #[.agg #[vI n9,.slice p10 l11 l12,.string s13,.slice p14 l15 l16,.int .u32 n17,vI n18],vI n8]))
 (cond (decide (n7≥(0:Int)))
 (cond (n7 != n4)
 (T.stores a3 [vI 0,.slice none 0 0,.string ⟨#[]⟩,.slice none 0 0,.int .u32 0,vI 0] <|
 T.loads a3 yT <| fun n9 p10 l11 l12 s13 p14 l15 l16 n17 n18 =>
 T.ret (.tuple #[.agg #[vI n9,.slice p10 l11 l12,.string s13,.slice p14 l15 l16,.int .u32 n17,vI n18],vI 21]))
 (T.loads a6 yT <| fun n9 p10 l11 l12 s13 p14 l15 l16 n17 n18 =>
 T.stores a3 [vI n9,.slice p10 l11 l12,.string s13,.slice p14 l15 l16,.int .u32 n17,vI n18] <|
 T.loads a3 yT <| fun n19 p20 l21 l22 s23 p24 l25 l26 n27 n28 =>
 T.ret (.tuple #[.agg #[vI n19,.slice p20 l21 l22,.string s23,.slice p24 l25 l26,.int .u32 n27,vI n28],vI 0])))
 (T.loads a6 yT <| fun n9 p10 l11 l12 s13 p14 l15 l16 n17 n18 =>
 T.stores a3 [vI n9,.slice p10 l11 l12,.string s13,.slice p14 l15 l16,.int .u32 n17,vI n18] <|
 T.loads a3 yT <| fun n19 p20 l21 l22 s23 p24 l25 l26 n27 n28 =>
 T.ret (.tuple #[.agg #[vI n19,.slice p20 l21 l22,.string s23,.slice p24 l25 l26,.int .u32 n27,vI n28],vI 0]))))
theorem t_item_Read_eq (s0:ByteArray) (s1_0:ByteArray) (pp02:Option Addr) (ll02 cc02:Nat) (n1:Int):xfun Tryz.prog [1003,1014] Tryz.f65 [.agg #[.string s0,.string s1_0,.slice pp02 ll02 cc02],vI n1]=t_item_Read s0 s1_0 pp02 ll02 cc02 n1:=by kernel_rfl
end Go.Sx
