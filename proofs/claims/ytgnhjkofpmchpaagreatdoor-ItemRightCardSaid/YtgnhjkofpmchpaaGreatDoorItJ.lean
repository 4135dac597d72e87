/- Trees of functions, each checked by the kernel against the code. No condition. -/
import Derived.Test.YtgnhjkofpmchpaaGreatDoorSxF
import Derived.Test.YtgnhjkofpmchpaaGreatDoorProg
import Derived.KernelRfl
set_option linter.unusedVariables false
set_option linter.unusedSimpArgs false
set_option linter.deprecated false
set_option maxRecDepth 100000
namespace Go.Sx
open Go.Proofs
def t_spandrelref8_Read (s0:ByteArray) (s1_0:ByteArray) (pp02:Option Addr) (ll02 cc02:Nat) (n1:Int):T :=
 T.new [.string s0,.string s1_0,.slice pp02 ll02 cc02] 69 <| fun a2 =>
 T.new [vI 0,.slice none 0 0,.string ⟨#[]⟩,.slice none 0 0,.int .u32 0,vI 0] 30 <| fun a3 =>
 T.loads (a2.add 1) [.string] <| fun s4 =>
 cond ((ByteArray.toList s4)==[])
 (T.stores a3 [vI 0,.slice none 0 0,.string ⟨#[]⟩,.slice none 0 0,.int .u32 0,vI 0] <|
 T.loads a3 yT <| fun n5 p6 l7 l8 s9 p10 l11 l12 n13 n14 =>
 T.ret (.tuple #[.agg #[vI n5,.slice p6 l7 l8,.string s9,.slice p10 l11 l12,.int .u32 n13,vI n14],vI 0]))
 (T.loads (a2.add 1) [.string] <| fun s5 =>
 T.call Tryz.prog 50 [.string s5] false [(false,[.int .i64])] <| fun n6 =>
 cond (decide (n6>(0:Int)))
 (T.loads (a2.add 2) [.slice 98] <| fun p7 l8 l9 =>
 T.call Tryz.prog 51 [vI n6,.slice p7 l8 l9] true [(true,yI),(false,[.int .i64])] <| fun n10 s11 n12 n13 n14 n15 n16 p17 l18 l19 n20 n21 n22 =>
 T.new [vI 0,.string ⟨#[]⟩,vI 0,vI 0,vI 0,.int .i32 0,vI 0,.slice none 0 0,.int .u32 0,vI 0] 54 <| fun a23 =>
 T.stores a23 [vI n10,.string s11,vI n12,vI n13,vI n14,.int .i32 n15,vI n16,.slice p17 l18 l19,.int .u32 n20,vI n21] <|
 T.join [(false,[.int .i64])]
 (cond (n22==(0:Int))
 (cond (n1==(1:Int))
 (T.again 0 [vI 21])
 (T.again 0 [vI n22]))
 (T.again 0 [vI n22])) <| fun n24 =>
 cond (n24 != (0:Int))
 (T.stores a3 [vI 0,.slice none 0 0,.string ⟨#[]⟩,.slice none 0 0,.int .u32 0,vI 0] <|
 T.loads a3 yT <| fun n25 p26 l27 l28 s29 p30 l31 l32 n33 n34 =>
 T.ret (.tuple #[.agg #[vI n25,.slice p26 l27 l28,.string s29,.slice p30 l31 l32,.int .u32 n33,vI n34],vI n24]))
 (T.loads a23 yI <| fun n25 s26 n27 n28 n29 n30 n31 p32 l33 l34 n35 n36 =>
 T.sem Tryz.prog (Instr.buildSlice 22 1 #[(0,.agg #[vI n25,.string s26,vI n27,vI n28,vI n29,.int .i32 n30,vI n31,.slice p32 l33 l34,.int .u32 n35,vI n36])]) false [(false,[.slice 0])] <| fun p37 l38 l39 =>
 T.stores a3 [vI 1,.slice p37 l38 l39,.string ⟨#[]⟩,.slice none 0 0,.int .u32 0,vI 0] <|
 T.loads a3 yT <| fun n40 p41 l42 l43 s44 p45 l46 l47 n48 n49 =>
 T.ret (.tuple #[.agg #[vI n40,.slice p41 l42 l43,.string s44,.slice p45 l46 l47,.int .u32 n48,vI n49],vI 0])))
 (T.loads (a2.add 1) [.string] <| fun s7 =>
 T.loads (a2.add 2) [.slice 98] <| fun p8 l9 l10 =>
 T.call Tryz.prog 52 [.string s7,.slice p8 l9 l10] true [(true,yT),(false,[.int .i64])] <| fun n11 p12 l13 l14 s15 p16 l17 l18 n19 n20 n21 =>
 T.new [vI 0,.slice none 0 0,.string ⟨#[]⟩,.slice none 0 0,.int .u32 0,vI 0] 30 <| fun a22 =>
 T.stores a22 [vI n11,.slice p12 l13 l14,.string s15,.slice p16 l17 l18,.int .u32 n19,vI n20] <|
 T.join [(false,[.int .i64])]
 (cond (n21==(0:Int))
 (T.loads (a2.add 1) [.string] <| fun s23 =>
 cond ((ByteArray.toList s23)==[({ toBitVec:=112#8 }),({ toBitVec:=111#8 }),({ toBitVec:=111#8 }),({ toBitVec:=108#8 })])
 (cond (n1==(1:Int))
 (T.again 0 [vI 21])
 (T.loads (a2.add 1) [.string] <| fun s24 =>
 cond ((ByteArray.toList s24)==[({ toBitVec:=98#8 }),({ toBitVec:=121#8 }),({ toBitVec:=116#8 }),({ toBitVec:=101#8 })])
 (cond (!(n1==(1:Int)))
 (T.again 0 [vI 21])
 (T.again 0 [vI n21]))
 (T.loads (a2.add 1) [.string] <| fun s25 =>
 cond ((ByteArray.toList s25)==[({ toBitVec:=119#8 }),({ toBitVec:=111#8 }),({ toBitVec:=114#8 }),({ toBitVec:=100#8 })])
 (cond (!(n1==(1:Int)))
 (T.again 0 [vI 21])
 (T.again 0 [vI n21]))
 (T.loads (a2.add 1) [.string] <| fun s26 =>
 cond ((ByteArray.toList s26)==[({ toBitVec:=115#8 }),({ toBitVec:=112#8 }),({ toBitVec:=97#8 }),({ toBitVec:=99#8 }),({ toBitVec:=101#8 })])
 (cond (!(n1==(1:Int)))
 (T.again 0 [vI 21])
 (T.again 0 [vI n21]))
 (T.again 0 [vI n21])))))
 (T.loads (a2.add 1) [.string] <| fun s24 =>
 cond ((ByteArray.toList s24)==[({ toBitVec:=98#8 }),({ toBitVec:=121#8 }),({ toBitVec:=116#8 }),({ toBitVec:=101#8 })])
 (cond (!(n1==(1:Int)))
 (T.again 0 [vI 21])
 (T.again 0 [vI n21]))
 (T.loads (a2.add 1) [.string] <| fun s25 =>
 cond ((ByteArray.toList s25)==[({ toBitVec:=119#8 }),({ toBitVec:=111#8 }),({ toBitVec:=114#8 }),({ toBitVec:=100#8 })])
 (cond (!(n1==(1:Int)))
 (T.again 0 [vI 21])
 (T.again 0 [vI n21]))
 (T.loads (a2.add 1) [.string] <| fun s26 =>
 cond ((ByteArray.toList s26)==[({ toBitVec:=115#8 }),({ toBitVec:=112#8 }),({ toBitVec:=97#8 }),({ toBitVec:=99#8 }),({ toBitVec:=101#8 })])
 (cond (!(n1==(1:Int)))
 (T.again 0 [vI 21])
 (T.again 0 [vI n21]))
 (T.again 0 [vI n21])))))
 (T.again 0 [vI n21])) <| fun n23 =>
 cond (n23 != (0:Int))
 (T.stores a3 [vI 0,.slice none 0 0,.string ⟨#[]⟩,.slice none 0 0,.int .u32 0,vI 0] <|
 T.loads a3 yT <| fun n24 p25 l26 l27 s28 p29 l30 l31 n32 n33 =>
 T.ret (.tuple #[.agg #[vI n24,.slice p25 l26 l27,.string s28,.slice p29 l30 l31,.int .u32 n32,vI n33],vI n23]))
 (T.loads a22 yT <| fun n24 p25 l26 l27 s28 p29 l30 l31 n32 n33 =>
 T.stores a3 [vI n24,.slice p25 l26 l27,.string s28,.slice p29 l30 l31,.int .u32 n32,vI n33] <|
 T.loads a3 yT <| fun n34 p35 l36 l37 s38 p39 l40 l41 n42 n43 =>
 T.ret (.tuple #[.agg #[vI n34,.slice p35 l36 l37,.string s38,.slice p39 l40 l41,.int .u32 n42,vI n43],vI 0]))))
theorem t_spandrelref8_Read_eq (s0:ByteArray) (s1_0:ByteArray) (pp02:Option Addr) (ll02 cc02:Nat) (n1:Int):xfun Tryz.prog [1009,1015] Tryz.f24 [.agg #[.string s0,.string s1_0,.slice pp02 ll02 cc02],vI n1]=t_spandrelref8_Read s0 s1_0 pp02 ll02 cc02 n1:=by kernel_rfl
end Go.Sx
