/- Trees of functions, each checked by the kernel against the code. No condition. -/
import Derived.Test.YtgnhjkofpmchpaaGreatDoorSxF
import Derived.Test.YtgnhjkofpmchpaaGreatDoorProg
import Derived.KernelRfl
set_option linter.unusedVariables false
set_option linter.unusedSimpArgs false
set_option linter.deprecated false
set_option maxRecDepth 100000
namespace Go.Sx
open Go.Proofs
def t_spandrellaw8_ItemNumbers :T :=
 T.sem Tryz.prog (Instr.buildSlice 61 13 #[(0,.string ⟨#[97,100,100,32,114,49]⟩),(1,.string ⟨#[97,100,100,32,114,49,44,32,122,50]⟩),(2,.string ⟨#[110,111,112,101]⟩),(3,.string ⟨#[110,111,112,101,32,114,49]⟩),(4,.string ⟨#[112,111,111,108,32,49]⟩),(5,.string ⟨#[98,121,116,101]⟩),(6,.string ⟨#[115,101,99,116,105,111,110,32,98,111,116,104]⟩),(7,.string ⟨#[101,113,117,32,114,49,44,32,50]⟩),(8,.string ⟨#[108,100,112,32,114,49,44,32,53]⟩),(9,.string ⟨#[101,113,117,32,49,44,32,50]⟩),(10,.string ⟨#[122,114,101,32,122,49,44,32,122,50]⟩),(11,.string ⟨#[116,114,97,112]⟩),(12,.string ⟨#[106,109,112]⟩)]) false [(false,[.slice 0])] <| fun p1 l2 l3 =>
 T.loop [(false,[.bool]),(false,[.int .i64])] [.bool false,vI 0] <| fun b4 n5 =>
 cond (decide (n5<(l2:Int)))
 (T.need (((0:Int)≤n5)∧(n5<(l2:Int))) <|
 T.osome p1 <| fun a6 =>
 T.loads (a6.add ((Int.toNat n5)*1)) [.string] <| fun s7 =>
 T.call Tryz.prog 18 [.string s7,vI 0,vI 20] false [(false,[.bool])] <| fun b8 =>
 cond (!b8)
 (T.ret (.bool false))
 (T.again 0 [.bool b4,vI (IntKind.wrap .i64 (n5+(1:Int)))]))
 (T.sem Tryz.prog (Instr.buildSlice 61 10 #[(0,.string ⟨#[108,105,115,32,114,49,44,32,97]⟩),(1,.string ⟨#[98,121,116,101,32,49]⟩),(2,.string ⟨#[97,108,105,103,110,32,51]⟩),(3,.string ⟨#[97,108,105,103,110,32,53,49,50]⟩),(4,.string ⟨#[97,108,105,103,110,32,48]⟩),(5,.string ⟨#[108,105,32,114,49,44,32,97,42,97]⟩),(6,.string ⟨#[115,112,97,99,101,32,49]⟩),(7,.string ⟨#[116,114,97,112,32,50,53,54]⟩),(8,.string ⟨#[116,114,97,112,32,45,49]⟩),(9,.string ⟨#[119,111,114,100,32,49]⟩)]) false [(false,[.slice 0])] <| fun p6 l7 l8 =>
 T.loop [(false,[.bool]),(false,[.int .i64])] [.bool b4,vI 0] <| fun b9 n10 =>
 cond (decide (n10<(l7:Int)))
 (T.need (((0:Int)≤n10)∧(n10<(l7:Int))) <|
 T.osome p6 <| fun a11 =>
 T.loads (a11.add ((Int.toNat n10)*1)) [.string] <| fun s12 =>
 T.call Tryz.prog 18 [.string s12,vI 0,vI 21] false [(false,[.bool])] <| fun b13 =>
 cond (!b13)
 (T.ret (.bool false))
 (T.again 1 [.bool b9,vI (IntKind.wrap .i64 (n10+(1:Int)))]))
 (T.sem Tryz.prog (Instr.buildSlice 61 12 #[(0,.string ⟨#[]⟩),(1,.string ⟨#[120,58]⟩),(2,.string ⟨#[97,108,105,103,110,32,50,53,54]⟩),(3,.string ⟨#[112,111,111,108]⟩),(4,.string ⟨#[116,114,97,112,32,50,53,53]⟩),(5,.string ⟨#[122,115,101,116,32,122,49,44,32,114,50,44,32,114,51]⟩),(6,.string ⟨#[122,114,101,32,114,49,44,32,122,50]⟩),(7,.string ⟨#[101,113,117,32,120,44,32,50,42,121]⟩),(8,.string ⟨#[103,108,111,98,97,108,32,120]⟩),(9,.string ⟨#[115,101,99,116,105,111,110,32,100,97,116,97]⟩),(10,.string ⟨#[106,122,32,114,49,44,32,97]⟩),(11,.string ⟨#[108,100,112,32,114,49,44,32,61,97,43,49]⟩)]) false [(false,[.slice 0])] <| fun p11 l12 l13 =>
 T.loop [(false,[.bool]),(false,[.int .i64])] [.bool b9,vI 0] <| fun b14 n15 =>
 cond (decide (n15<(l12:Int)))
 (T.need (((0:Int)≤n15)∧(n15<(l12:Int))) <|
 T.osome p11 <| fun a16 =>
 T.loads (a16.add ((Int.toNat n15)*1)) [.string] <| fun s17 =>
 T.call Tryz.prog 18 [.string s17,vI 0,vI 0] false [(false,[.bool])] <| fun b18 =>
 cond (!b18)
 (T.ret (.bool false))
 (T.again 2 [.bool b14,vI (IntKind.wrap .i64 (n15+(1:Int)))]))
 (T.call Tryz.prog 18 [.string ⟨#[98,121,116,101,32,49,44,32,51,48,48]⟩,vI 1,vI 21] false [(false,[.bool])] <| fun b16 =>
 cond b16
 (T.call Tryz.prog 18 [.string ⟨#[98,121,116,101,32,45,49,50,56,44,32,50,53,53]⟩,vI 1,vI 0] false [(false,[.bool])] <| fun b17 =>
 cond b17
 (T.call Tryz.prog 18 [.string ⟨#[115,112,97,99,101,32,45,49]⟩,vI 1,vI 21] false [(false,[.bool])] <| fun b18 =>
 cond b18
 (T.call Tryz.prog 18 [.string ⟨#[115,112,97,99,101,32,49,48,52,56,53,55,54]⟩,vI 1,vI 0] false [(false,[.bool])] <| fun b19 =>
 cond b19
 (T.call Tryz.prog 18 [.string ⟨#[112,111,111,108]⟩,vI 1,vI 21] false [(false,[.bool])] <| fun b20 =>
 cond b20
 (T.call Tryz.prog 18 [.string ⟨#[115,101,99,116,105,111,110,32,116,101,120,116]⟩,vI 1,vI 0] false [(false,[.bool])] <| fun b21 =>
 cond b21
 (T.call Tryz.prog 19 [.agg #[vI 0,.string ⟨#[]⟩,vI 0,vI 0,vI 0,.int .i32 0,vI 0,.slice none 0 0,.int .u32 0,vI 0],vI 2] false [(false,[.int .i64])] <| fun n22 =>
 cond (n22==(1:Int))
 (T.call Tryz.prog 19 [.agg #[vI 0,.string ⟨#[]⟩,vI 0,vI 0,vI 0,.int .i32 0,vI 0,.slice none 0 0,.int .u32 0,vI 0],vI 0] false [(false,[.int .i64])] <| fun n23 =>
 cond (n23==(31:Int))
 (T.call Tryz.prog 11 [] false [(false,[.bool])] <| fun b24 =>
 T.ret (.bool b24))
 (T.ret (.bool false)))
 (T.ret (.bool false)))
 (T.ret (.bool false)))
 (T.ret (.bool false)))
 (T.ret (.bool false)))
 (T.ret (.bool false)))
 (T.ret (.bool false)))
 (T.ret (.bool false)))))
theorem t_spandrellaw8_ItemNumbers_eq :xfun Tryz.prog [] Tryz.f5 []=t_spandrellaw8_ItemNumbers :=by kernel_rfl
end Go.Sx
