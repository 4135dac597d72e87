/- Trees of functions, each checked by the kernel against the code. No condition. -/
import Derived.Test.YtgnhjkofpmchpaaGreatDoorVSxF
import Derived.Test.YtgnhjkofpmchpaaGreatDoorProg
import Derived.KernelRfl
set_option linter.unusedVariables false
set_option linter.unusedSimpArgs false
set_option linter.deprecated false
set_option maxRecDepth 100000
namespace Go.Sx
open Go.Proofs
def t_spandrellaw8_ItemKept (s0:ByteArray):T :=
 T.call Tryz.prog 9 [.string s0,vI 300] false [(false,[.string])] <| fun s1 =>
 T.call Tryz.prog 12 [.string s1] true [(true,[.string,.string,.slice 42]),(false,[.int .i64]),(false,[.int .i64])] <| fun s2 s3 p4 l5 l6 n7 n8 =>
 T.new [.string ⟨#[]⟩,.string ⟨#[]⟩,.slice none 0 0] 39 <| fun a9 =>
 T.stores a9 [.string s2,.string s3,.slice p4 l5 l6] <|
 cond (n8 != (0:Int))
 (T.call Tryz.prog 11 [] false [(false,[.bool])] <| fun b10 =>
 T.ret (.bool b10))
 (T.loads a9 [.string] <| fun s10 =>
 T.loads (a9.add 1) [.string] <| fun s11 =>
 T.new [.string ⟨#[]⟩,.string ⟨#[]⟩,.slice none 0 0] 39 <| fun a12 =>
 T.stores a12 [.string s10,.string s11,.slice none 0 0] <|
 T.loop [(false,[.int .i64])] [vI 0] <| fun n13 =>
 T.loads (a9.add 2) [.slice 42] <| fun p14 l15 l16 =>
 cond (decide (n13<(l15:Int)))
 (T.loads (a12.add 2) [.slice 42] <| fun p17 l18 l19 =>
 T.loads (a9.add 2) [.slice 42] <| fun p20 l21 l22 =>
 T.need (((0:Int)≤n13)∧(n13<(l21:Int))) <|
 T.osome p20 <| fun a23 =>
 T.loads (a23.add ((Int.toNat n13)*1)) [.slice 57] <| fun p24 l25 l26 =>
 T.sem Tryz.prog (Instr.buildSlice 42 0 #[]) false [(false,[.slice 0])] <| fun p27 l28 l29 =>
 T.stable [((a23.add ((Int.toNat n13)*1)),[.slice p24 l25 l26]),((a9.add 2),[.slice p20 l21 l22]),((a12.add 2),[.slice p17 l18 l19])] <|
 T.sem Tryz.prog (Builtin.append_ #[42,42] 42 #[.slice p27 l28 l29,.slice p24 l25 l26]) false [(false,[.slice 0])] <| fun p30 l31 l32 =>
 T.stable [((a9.add 2),[.slice p20 l21 l22]),((a12.add 2),[.slice p17 l18 l19])] <|
 T.sem Tryz.prog (Instr.buildSlice 37 1 #[(0,.slice p30 l31 l32)]) false [(false,[.slice 0])] <| fun p33 l34 l35 =>
 T.stable [((a23.add ((Int.toNat n13)*1)),[.slice p24 l25 l26]),((a9.add 2),[.slice p20 l21 l22]),((a12.add 2),[.slice p17 l18 l19])] <|
 T.sem Tryz.prog (Builtin.append_ #[37,37] 37 #[.slice p17 l18 l19,.slice p33 l34 l35]) false [(false,[.slice 0])] <| fun p36 l37 l38 =>
 T.stable [((a23.add ((Int.toNat n13)*1)),[.slice p24 l25 l26]),((a9.add 2),[.slice p20 l21 l22])] <|
 T.stores (a12.add 2) [.slice p36 l37 l38] <|
 T.again 0 [vI (IntKind.wrap .i64 (n13+(1:Int)))])
 (T.new [.slice none 0 0,.slice none 0 0,vI 0,.bool false] 45 <| fun a17 =>
 T.loop [(false,[.bool]),(false,[.int .i64])] [.bool false,vI 0] <| fun b18 n19 =>
 cond (decide (n19<(2:Int)))
 (T.loads a9 [.string,.string,.slice 42] <| fun s20 s21 p22 l23 l24 =>
 T.call Tryz.prog 13 [.agg #[.string s20,.string s21,.slice p22 l23 l24],vI n19] true [(true,yT),(false,[.int .i64])] <| fun n25 p26 l27 l28 s29 p30 l31 l32 n33 n34 n35 =>
 T.new [vI 0,.slice none 0 0,.string ⟨#[]⟩,.slice none 0 0,.int .u32 0,vI 0] 28 <| fun a36 =>
 T.stores a36 [vI n25,.slice p26 l27 l28,.string s29,.slice p30 l31 l32,.int .u32 n33,vI n34] <|
 T.loads a9 [.string,.string,.slice 42] <| fun s37 s38 p39 l40 l41 =>
 T.call Tryz.prog 13 [.agg #[.string s37,.string s38,.slice p39 l40 l41],vI n19] true [(true,yT),(false,[.int .i64])] <| fun n42 p43 l44 l45 s46 p47 l48 l49 n50 n51 n52 =>
 T.new [vI 0,.slice none 0 0,.string ⟨#[]⟩,.slice none 0 0,.int .u32 0,vI 0] 28 <| fun a53 =>
 T.stores a53 [vI n42,.slice p43 l44 l45,.string s46,.slice p47 l48 l49,.int .u32 n50,vI n51] <|
 T.loads (a36.add 3) [.slice 50] <| fun p54 l55 l56 =>
 T.call Tryz.prog 14 [.pointer (some a17),.slice p54 l55 l56] true [] <| T.loop [(false,[.bool]),(false,[.int .i64])] [.bool b18,vI 0] <| fun b57 n58 =>
 T.loads (a36.add 1) [.slice 54] <| fun p59 l60 l61 =>
 cond (decide (n58<(l60:Int)))
 (T.loads (a53.add 1) [.slice 54] <| fun p62 l63 l64 =>
 cond (decide (n58<(l63:Int)))
 (T.loads (a36.add 1) [.slice 54] <| fun p65 l66 l67 =>
 T.need (((0:Int)≤n58)∧(n58<(l66:Int))) <|
 T.osome p65 <| fun a68 =>
 T.loads ((a68.add ((Int.toNat n58)*10)).add 7) [.slice 50] <| fun p69 l70 l71 =>
 T.call Tryz.prog 14 [.pointer (some a17),.slice p69 l70 l71] true [] <| T.loads (a53.add 1) [.slice 54] <| fun p72 l73 l74 =>
 T.need (((0:Int)≤n58)∧(n58<(l73:Int))) <|
 T.osome p72 <| fun a75 =>
 T.loads ((a75.add ((Int.toNat n58)*10)).add 7) [.slice 50] <| fun p76 l77 l78 =>
 T.call Tryz.prog 14 [.pointer (some a17),.slice p76 l77 l78] true [] <| T.loads (a36.add 1) [.slice 54] <| fun p79 l80 l81 =>
 T.need (((0:Int)≤n58)∧(n58<(l80:Int))) <|
 T.osome p79 <| fun a82 =>
 T.stores (a82.add ((Int.toNat n58)*10)) [vI (-9:Int),.string ⟨#[]⟩,vI 0,vI 0,vI 0,.int .i32 0,vI 0,.slice none 0 0,.int .u32 0,vI 0] <|
 T.loads (a53.add 1) [.slice 54] <| fun p83 l84 l85 =>
 T.need (((0:Int)≤n58)∧(n58<(l84:Int))) <|
 T.osome p83 <| fun a86 =>
 T.loads (a86.add ((Int.toNat n58)*10)) [.int .i64] <| fun n87 =>
 cond (n87==(-9:Int))
 (T.ret (.bool false))
 (T.again 2 [.bool b57,vI (IntKind.wrap .i64 (n58+(1:Int)))]))
 (T.again 1 [.bool b57,vI (IntKind.wrap .i64 (n19+(1:Int)))]))
 (T.again 1 [.bool b57,vI (IntKind.wrap .i64 (n19+(1:Int)))]))
 (T.loop [(false,[.bool]),(false,[.int .i64])] [.bool b18,vI 0] <| fun b20 n21 =>
 T.loads (a12.add 2) [.slice 42] <| fun p22 l23 l24 =>
 cond (decide (n21<(l23:Int)))
 (T.loads (a12.add 2) [.slice 42] <| fun p25 l26 l27 =>
 T.need (((0:Int)≤n21)∧(n21<(l26:Int))) <|
 T.osome p25 <| fun a28 =>
 T.loads (a28.add ((Int.toNat n21)*1)) [.slice 57] <| fun p29 l30 l31 =>
 T.loads (a9.add 2) [.slice 42] <| fun p32 l33 l34 =>
 T.need (((0:Int)≤n21)∧(n21<(l33:Int))) <|
 T.osome p32 <| fun a35 =>
 T.loads (a35.add ((Int.toNat n21)*1)) [.slice 57] <| fun p36 l37 l38 =>
 T.call Tryz.prog 15 [.slice p29 l30 l31,.slice p36 l37 l38] false [(false,[.bool])] <| fun b39 =>
 T.stable [((a9.add 2),[.slice p32 l33 l34]),((a12.add 2),[.slice p25 l26 l27])] <|
 cond (!b39)
 (T.ret (.bool false))
 (T.again 2 [.bool b20,vI (IntKind.wrap .i64 (n21+(1:Int)))]))
 (T.call Tryz.prog 16 [.pointer (some a17),.func (Fn.func 17) #[] #[]] false [(false,[.bool])] <| fun b25 =>
 cond b25
 (T.call Tryz.prog 11 [] false [(false,[.bool])] <| fun b26 =>
 T.ret (.bool b26))
 (T.ret (.bool false))))))
theorem t_spandrellaw8_ItemKept_eq (s0:ByteArray):xfun Tryz.prog [] Tryz.f4 [.string s0]=t_spandrellaw8_ItemKept s0:=by kernel_rfl
end Go.Sx
