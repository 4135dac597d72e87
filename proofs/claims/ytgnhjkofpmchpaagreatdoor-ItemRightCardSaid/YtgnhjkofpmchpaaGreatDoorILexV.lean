/- Trees of functions, each checked by the kernel against the code. No condition. -/
import Derived.Test.YtgnhjkofpmchpaaGreatDoorSxF
import Derived.Test.YtgnhjkofpmchpaaGreatDoorProg
import Derived.KernelRfl
set_option linter.unusedVariables false
set_option linter.unusedSimpArgs false
set_option linter.deprecated false
set_option maxRecDepth 100000
namespace Go.Sx
open Go.Proofs
def t_spandrelref2_Tokens (s0:ByteArray):T :=
 T.loop [(false,[.slice 0]),(false,[.int .i64]),(false,[.int .i64]),(false,[.slice 0]),(false,[.int .i64])] [.slice none 0 0,vI 0,vI 0,.slice none 0 0,vI 0] <| fun p1 l2 l3 n4 n5 p6 l7 l8 n9 =>
 cond (decide (n9<(s0.size:Int)))
 (T.need (((0:Int)≤n9)∧(n9<(s0.size:Int))) <|
 cond ((sbyte s0 n9)==(59:Int))
 (T.ret (.tuple #[.slice p6 l7 l8,vI 0,vI 0]))
 (cond ((sbyte s0 n9)==(9:Int))
 (T.again 0 [.slice p1 l2 l3,vI n4,vI n5,.slice p6 l7 l8,vI (IntKind.wrap .i64 (n9+(1:Int)))])
 (cond ((sbyte s0 n9)==(13:Int))
 (T.again 0 [.slice p1 l2 l3,vI n4,vI n5,.slice p6 l7 l8,vI (IntKind.wrap .i64 (n9+(1:Int)))])
 (cond ((sbyte s0 n9)==(32:Int))
 (T.again 0 [.slice p1 l2 l3,vI n4,vI n5,.slice p6 l7 l8,vI (IntKind.wrap .i64 (n9+(1:Int)))])
 (T.call Tryz.prog 66 [.int .u8 (sbyte s0 n9)] false [(false,[.bool])] <| fun b10 =>
 cond b10
 (T.loop [(false,[.int .i64])] [vI n9] <| fun n11 =>
 cond (decide (n11<(s0.size:Int)))
 (T.need (((0:Int)≤n11)∧(n11<(s0.size:Int))) <|
 T.call Tryz.prog 66 [.int .u8 (sbyte s0 n11)] false [(false,[.bool])] <| fun b12 =>
 cond b12
 (T.again 1 [vI (IntKind.wrap .i64 (n11+(1:Int)))])
 (T.need (((0:Int)≤n11)∧(n11<(s0.size:Int))) <|
 T.call Tryz.prog 67 [.int .u8 (sbyte s0 n11)] false [(false,[.bool])] <| fun b13 =>
 cond b13
 (T.again 1 [vI (IntKind.wrap .i64 (n11+(1:Int)))])
 (cond (decide ((IntKind.wrap .i64 (n11-n9))>(32:Int)))
 (T.ret (.tuple #[.slice none 0 0,vI n9,vI 20]))
 (T.need (((0:Int)≤n9)∧((n9≤n11)∧(n11≤(s0.size:Int)))) <|
 T.sem Tryz.prog (Instr.buildSlice 98 1 #[(0,.agg #[vI 1,.string (ByteArray.extract s0 (Int.toNat n9) (Int.toNat n11)),.int .u32 0,vI n9])]) false [(false,[.slice 0])] <| fun p14 l15 l16 =>
 T.sem Tryz.prog (Builtin.append_ #[98,98] 98 #[.slice p6 l7 l8,.slice p14 l15 l16]) false [(false,[.slice 0])] <| fun p17 l18 l19 =>
 T.again 0 [.slice p1 l2 l3,vI n4,vI n5,.slice p17 l18 l19,vI n11]))))
 (cond (decide ((IntKind.wrap .i64 (n11-n9))>(32:Int)))
 (T.ret (.tuple #[.slice none 0 0,vI n9,vI 20]))
 (T.need (((0:Int)≤n9)∧((n9≤n11)∧(n11≤(s0.size:Int)))) <|
 T.sem Tryz.prog (Instr.buildSlice 98 1 #[(0,.agg #[vI 1,.string (ByteArray.extract s0 (Int.toNat n9) (Int.toNat n11)),.int .u32 0,vI n9])]) false [(false,[.slice 0])] <| fun p12 l13 l14 =>
 T.sem Tryz.prog (Builtin.append_ #[98,98] 98 #[.slice p6 l7 l8,.slice p12 l13 l14]) false [(false,[.slice 0])] <| fun p15 l16 l17 =>
 T.again 0 [.slice p1 l2 l3,vI n4,vI n5,.slice p15 l16 l17,vI n11])))
 (T.call Tryz.prog 67 [.int .u8 (sbyte s0 n9)] false [(false,[.bool])] <| fun b11 =>
 cond b11
 (T.call Tryz.prog 72 [.string s0,vI n9] true [(false,[.int .u32]),(false,[.int .i64])] <| fun n12 n13 =>
 cond (n13==(0:Int))
 (T.ret (.tuple #[.slice none 0 0,vI n9,vI 20]))
 (T.need (((0:Int)≤n9)∧((n9≤n13)∧(n13≤(s0.size:Int)))) <|
 T.sem Tryz.prog (Instr.buildSlice 98 1 #[(0,.agg #[vI 2,.string (ByteArray.extract s0 (Int.toNat n9) (Int.toNat n13)),.int .u32 n12,vI n9])]) false [(false,[.slice 0])] <| fun p14 l15 l16 =>
 T.sem Tryz.prog (Builtin.append_ #[98,98] 98 #[.slice p6 l7 l8,.slice p14 l15 l16]) false [(false,[.slice 0])] <| fun p17 l18 l19 =>
 T.again 0 [.slice p1 l2 l3,vI n4,vI n5,.slice p17 l18 l19,vI n13]))
 (cond ((sbyte s0 n9)==(39:Int))
 (T.call Tryz.prog 72 [.string s0,vI n9] true [(false,[.int .u32]),(false,[.int .i64])] <| fun n12 n13 =>
 cond (n13==(0:Int))
 (T.ret (.tuple #[.slice none 0 0,vI n9,vI 20]))
 (T.need (((0:Int)≤n9)∧((n9≤n13)∧(n13≤(s0.size:Int)))) <|
 T.sem Tryz.prog (Instr.buildSlice 98 1 #[(0,.agg #[vI 2,.string (ByteArray.extract s0 (Int.toNat n9) (Int.toNat n13)),.int .u32 n12,vI n9])]) false [(false,[.slice 0])] <| fun p14 l15 l16 =>
 T.sem Tryz.prog (Builtin.append_ #[98,98] 98 #[.slice p6 l7 l8,.slice p14 l15 l16]) false [(false,[.slice 0])] <| fun p17 l18 l19 =>
 T.again 0 [.slice p1 l2 l3,vI n4,vI n5,.slice p17 l18 l19,vI n13]))
 (cond ((sbyte s0 n9) != (58:Int))
 (cond ((sbyte s0 n9) != (44:Int))
 (cond ((sbyte s0 n9) != (40:Int))
 (cond ((sbyte s0 n9) != (41:Int))
 (cond ((sbyte s0 n9) != (43:Int))
 (cond ((sbyte s0 n9) != (45:Int))
 (cond ((sbyte s0 n9) != (42:Int))
 (cond ((sbyte s0 n9) != (61:Int))
 (T.ret (.tuple #[.slice none 0 0,vI n9,vI 20]))
 (T.need (((0:Int)≤n9)∧((n9≤(IntKind.wrap .i64 (n9+(1:Int))))∧((IntKind.wrap .i64 (n9+(1:Int)))≤(s0.size:Int)))) <|
 T.sem Tryz.prog (Instr.buildSlice 98 1 #[(0,.agg #[vI 3,.string (ByteArray.extract s0 (Int.toNat n9) (Int.toNat (IntKind.wrap .i64 (n9+(1:Int))))),.int .u32 0,vI n9])]) false [(false,[.slice 0])] <| fun p12 l13 l14 =>
 T.sem Tryz.prog (Builtin.append_ #[98,98] 98 #[.slice p6 l7 l8,.slice p12 l13 l14]) false [(false,[.slice 0])] <| fun p15 l16 l17 =>
 T.again 0 [.slice p1 l2 l3,vI n4,vI n5,.slice p15 l16 l17,vI (IntKind.wrap .i64 (n9+(1:Int)))]))
 (T.need (((0:Int)≤n9)∧((n9≤(IntKind.wrap .i64 (n9+(1:Int))))∧((IntKind.wrap .i64 (n9+(1:Int)))≤(s0.size:Int)))) <|
 T.sem Tryz.prog (Instr.buildSlice 98 1 #[(0,.agg #[vI 3,.string (ByteArray.extract s0 (Int.toNat n9) (Int.toNat (IntKind.wrap .i64 (n9+(1:Int))))),.int .u32 0,vI n9])]) false [(false,[.slice 0])] <| fun p12 l13 l14 =>
 T.sem Tryz.prog (Builtin.append_ #[98,98] 98 #[.slice p6 l7 l8,.slice p12 l13 l14]) false [(false,[.slice 0])] <| fun p15 l16 l17 =>
 T.again 0 [.slice p1 l2 l3,vI n4,vI n5,.slice p15 l16 l17,vI (IntKind.wrap .i64 (n9+(1:Int)))]))
 (T.need (((0:Int)≤n9)∧((n9≤(IntKind.wrap .i64 (n9+(1:Int))))∧((IntKind.wrap .i64 (n9+(1:Int)))≤(s0.size:Int)))) <|
 T.sem Tryz.prog (Instr.buildSlice 98 1 #[(0,.agg #[vI 3,.string (ByteArray.extract s0 (Int.toNat n9) (Int.toNat (IntKind.wrap .i64 (n9+(1:Int))))),.int .u32 0,vI n9])]) false [(false,[.slice 0])] <| fun p12 l13 l14 =>
 T.sem Tryz.prog (Builtin.append_ #[98,98] 98 #[.slice p6 l7 l8,.slice p12 l13 l14]) false [(false,[.slice 0])] <| fun p15 l16 l17 =>
 T.again 0 [.slice p1 l2 l3,vI n4,vI n5,.slice p15 l16 l17,vI (IntKind.wrap .i64 (n9+(1:Int)))]))
 (T.need (((0:Int)≤n9)∧((n9≤(IntKind.wrap .i64 (n9+(1:Int))))∧((IntKind.wrap .i64 (n9+(1:Int)))≤(s0.size:Int)))) <|
 T.sem Tryz.prog (Instr.buildSlice 98 1 #[(0,.agg #[vI 3,.string (ByteArray.extract s0 (Int.toNat n9) (Int.toNat (IntKind.wrap .i64 (n9+(1:Int))))),.int .u32 0,vI n9])]) false [(false,[.slice 0])] <| fun p12 l13 l14 =>
 T.sem Tryz.prog (Builtin.append_ #[98,98] 98 #[.slice p6 l7 l8,.slice p12 l13 l14]) false [(false,[.slice 0])] <| fun p15 l16 l17 =>
 T.again 0 [.slice p1 l2 l3,vI n4,vI n5,.slice p15 l16 l17,vI (IntKind.wrap .i64 (n9+(1:Int)))]))
 (T.need (((0:Int)≤n9)∧((n9≤(IntKind.wrap .i64 (n9+(1:Int))))∧((IntKind.wrap .i64 (n9+(1:Int)))≤(s0.size:Int)))) <|
 T.sem Tryz.prog (Instr.buildSlice 98 1 #[(0,.agg #[vI 3,.string (ByteArray.extract s0 (Int.toNat n9) (Int.toNat (IntKind.wrap .i64 (n9+(1:Int))))),.int .u32 0,vI n9])]) false [(false,[.slice 0])] <| fun p12 l13 l14 =>
 T.sem Tryz.prog (Builtin.append_ #[98,98] 98 #[.slice p6 l7 l8,.slice p12 l13 l14]) false [(false,[.slice 0])] <| fun p15 l16 l17 =>
 T.again 0 [.slice p1 l2 l3,vI n4,vI n5,.slice p15 l16 l17,vI (IntKind.wrap .i64 (n9+(1:Int)))]))
 (T.need (((0:Int)≤n9)∧((n9≤(IntKind.wrap .i64 (n9+(1:Int))))∧((IntKind.wrap .i64 (n9+(1:Int)))≤(s0.size:Int)))) <|
 T.sem Tryz.prog (Instr.buildSlice 98 1 #[(0,.agg #[vI 3,.string (ByteArray.extract s0 (Int.toNat n9) (Int.toNat (IntKind.wrap .i64 (n9+(1:Int))))),.int .u32 0,vI n9])]) false [(false,[.slice 0])] <| fun p12 l13 l14 =>
 T.sem Tryz.prog (Builtin.append_ #[98,98] 98 #[.slice p6 l7 l8,.slice p12 l13 l14]) false [(false,[.slice 0])] <| fun p15 l16 l17 =>
 T.again 0 [.slice p1 l2 l3,vI n4,vI n5,.slice p15 l16 l17,vI (IntKind.wrap .i64 (n9+(1:Int)))]))
 (T.need (((0:Int)≤n9)∧((n9≤(IntKind.wrap .i64 (n9+(1:Int))))∧((IntKind.wrap .i64 (n9+(1:Int)))≤(s0.size:Int)))) <|
 T.sem Tryz.prog (Instr.buildSlice 98 1 #[(0,.agg #[vI 3,.string (ByteArray.extract s0 (Int.toNat n9) (Int.toNat (IntKind.wrap .i64 (n9+(1:Int))))),.int .u32 0,vI n9])]) false [(false,[.slice 0])] <| fun p12 l13 l14 =>
 T.sem Tryz.prog (Builtin.append_ #[98,98] 98 #[.slice p6 l7 l8,.slice p12 l13 l14]) false [(false,[.slice 0])] <| fun p15 l16 l17 =>
 T.again 0 [.slice p1 l2 l3,vI n4,vI n5,.slice p15 l16 l17,vI (IntKind.wrap .i64 (n9+(1:Int)))]))
 (T.need (((0:Int)≤n9)∧((n9≤(IntKind.wrap .i64 (n9+(1:Int))))∧((IntKind.wrap .i64 (n9+(1:Int)))≤(s0.size:Int)))) <|
 T.sem Tryz.prog (Instr.buildSlice 98 1 #[(0,.agg #[vI 3,.string (ByteArray.extract s0 (Int.toNat n9) (Int.toNat (IntKind.wrap .i64 (n9+(1:Int))))),.int .u32 0,vI n9])]) false [(false,[.slice 0])] <| fun p12 l13 l14 =>
 T.sem Tryz.prog (Builtin.append_ #[98,98] 98 #[.slice p6 l7 l8,.slice p12 l13 l14]) false [(false,[.slice 0])] <| fun p15 l16 l17 =>
 T.again 0 [.slice p1 l2 l3,vI n4,vI n5,.slice p15 l16 l17,vI (IntKind.wrap .i64 (n9+(1:Int)))])))))))))
 (T.ret (.tuple #[.slice p6 l7 l8,vI 0,vI 0]))
theorem t_spandrelref2_Tokens_eq (s0:ByteArray):xfun Tryz.prog [] Tryz.f48 [.string s0]=t_spandrelref2_Tokens s0:=by kernel_rfl
def t_spandrelref2_number (s0:ByteArray) (n1:Int):T :=
 T.need (((0:Int)≤n1)∧(n1<(s0.size:Int))) <|
 cond ((sbyte s0 n1)==(39:Int))
 (cond (decide ((IntKind.wrap .i64 (n1+(2:Int)))≥(s0.size:Int)))
 (T.ret (.tuple #[.int .u32 0,vI 0]))
 (T.need (((0:Int)≤(IntKind.wrap .i64 (n1+(1:Int))))∧((IntKind.wrap .i64 (n1+(1:Int)))<(s0.size:Int))) <|
 cond (decide ((sbyte s0 (IntKind.wrap .i64 (n1+(1:Int))))<(32:Int)))
 (T.ret (.tuple #[.int .u32 0,vI 0]))
 (T.need (((0:Int)≤(IntKind.wrap .i64 (n1+(1:Int))))∧((IntKind.wrap .i64 (n1+(1:Int)))<(s0.size:Int))) <|
 cond (decide ((sbyte s0 (IntKind.wrap .i64 (n1+(1:Int))))>(126:Int)))
 (T.ret (.tuple #[.int .u32 0,vI 0]))
 (T.need (((0:Int)≤(IntKind.wrap .i64 (n1+(1:Int))))∧((IntKind.wrap .i64 (n1+(1:Int)))<(s0.size:Int))) <|
 cond ((sbyte s0 (IntKind.wrap .i64 (n1+(1:Int))))==(39:Int))
 (T.ret (.tuple #[.int .u32 0,vI 0]))
 (T.need (((0:Int)≤(IntKind.wrap .i64 (n1+(2:Int))))∧((IntKind.wrap .i64 (n1+(2:Int)))<(s0.size:Int))) <|
 cond ((sbyte s0 (IntKind.wrap .i64 (n1+(2:Int)))) != (39:Int))
 (T.ret (.tuple #[.int .u32 0,vI 0]))
 (T.need (((0:Int)≤(IntKind.wrap .i64 (n1+(1:Int))))∧((IntKind.wrap .i64 (n1+(1:Int)))<(s0.size:Int))) <|
 T.ret (.tuple #[.int .u32 (IntKind.wrap .u32 (sbyte s0 (IntKind.wrap .i64 (n1+(1:Int))))),vI (IntKind.wrap .i64 (n1+(3:Int)))])))))))
 (T.need (((0:Int)≤n1)∧(n1<(s0.size:Int))) <|
 cond ((sbyte s0 n1)==(48:Int))
 (cond (decide ((IntKind.wrap .i64 (n1+(1:Int)))<(s0.size:Int)))
 (T.need (((0:Int)≤(IntKind.wrap .i64 (n1+(1:Int))))∧((IntKind.wrap .i64 (n1+(1:Int)))<(s0.size:Int))) <|
 cond ((sbyte s0 (IntKind.wrap .i64 (n1+(1:Int))))==(120:Int))
 (T.loop [(false,[.int .i64]),(false,[.int .u64])] [vI (IntKind.wrap .i64 (n1+(2:Int))),.int .u64 0] <| fun n2 n3 =>
 cond (decide (n2<(s0.size:Int)))
 (T.need (((0:Int)≤n2)∧(n2<(s0.size:Int))) <|
 T.call Tryz.prog 95 [.int .u8 (sbyte s0 n2)] false [(false,[.int .i64])] <| fun n4 =>
 cond (decide (n4≥(0:Int)))
 (cond (decide ((IntKind.wrap .i64 (n2-n1))<(12:Int)))
 (T.need (((0:Int)≤n2)∧(n2<(s0.size:Int))) <|
 T.call Tryz.prog 95 [.int .u8 (sbyte s0 n2)] false [(false,[.int .i64])] <| fun n5 =>
 T.again 0 [vI (IntKind.wrap .i64 (n2+(1:Int))),.int .u64 (IntKind.wrap .u64 ((IntKind.wrap .u64 (n3*(16:Int)))+(IntKind.wrap .u64 n5)))])
 (cond (decide ((IntKind.wrap .i64 (n2-n1))<(3:Int)))
 (T.ret (.tuple #[.int .u32 0,vI 0]))
 (cond (decide ((IntKind.wrap .i64 (n2-n1))>(10:Int)))
 (T.ret (.tuple #[.int .u32 0,vI 0]))
 (cond (decide (n2<(s0.size:Int)))
 (T.need (((0:Int)≤n2)∧(n2<(s0.size:Int))) <|
 T.call Tryz.prog 66 [.int .u8 (sbyte s0 n2)] false [(false,[.bool])] <| fun b5 =>
 cond b5
 (T.ret (.tuple #[.int .u32 0,vI 0]))
 (T.need (((0:Int)≤n2)∧(n2<(s0.size:Int))) <|
 T.call Tryz.prog 67 [.int .u8 (sbyte s0 n2)] false [(false,[.bool])] <| fun b6 =>
 cond b6
 (T.ret (.tuple #[.int .u32 0,vI 0]))
 (T.ret (.tuple #[.int .u32 (IntKind.wrap .u32 n3),vI n2]))))
 (T.ret (.tuple #[.int .u32 (IntKind.wrap .u32 n3),vI n2]))))))
 (cond (decide ((IntKind.wrap .i64 (n2-n1))<(3:Int)))
 (T.ret (.tuple #[.int .u32 0,vI 0]))
 (cond (decide ((IntKind.wrap .i64 (n2-n1))>(10:Int)))
 (T.ret (.tuple #[.int .u32 0,vI 0]))
 (cond (decide (n2<(s0.size:Int)))
 (T.need (((0:Int)≤n2)∧(n2<(s0.size:Int))) <|
 T.call Tryz.prog 66 [.int .u8 (sbyte s0 n2)] false [(false,[.bool])] <| fun b5 =>
 cond b5
 (T.ret (.tuple #[.int .u32 0,vI 0]))
 (T.need (((0:Int)≤n2)∧(n2<(s0.size:Int))) <|
 T.call Tryz.prog 67 [.int .u8 (sbyte s0 n2)] false [(false,[.bool])] <| fun b6 =>
 cond b6
 (T.ret (.tuple #[.int .u32 0,vI 0]))
 (T.ret (.tuple #[.int .u32 (IntKind.wrap .u32 n3),vI n2]))))
 (T.ret (.tuple #[.int .u32 (IntKind.wrap .u32 n3),vI n2]))))))
 (cond (decide ((IntKind.wrap .i64 (n2-n1))<(3:Int)))
 (T.ret (.tuple #[.int .u32 0,vI 0]))
 (cond (decide ((IntKind.wrap .i64 (n2-n1))>(10:Int)))
 (T.ret (.tuple #[.int .u32 0,vI 0]))
 (cond (decide (n2<(s0.size:Int)))
 (T.need (((0:Int)≤n2)∧(n2<(s0.size:Int))) <|
 T.call Tryz.prog 66 [.int .u8 (sbyte s0 n2)] false [(false,[.bool])] <| fun b4 =>
 cond b4
 (T.ret (.tuple #[.int .u32 0,vI 0]))
 (T.need (((0:Int)≤n2)∧(n2<(s0.size:Int))) <|
 T.call Tryz.prog 67 [.int .u8 (sbyte s0 n2)] false [(false,[.bool])] <| fun b5 =>
 cond b5
 (T.ret (.tuple #[.int .u32 0,vI 0]))
 (T.ret (.tuple #[.int .u32 (IntKind.wrap .u32 n3),vI n2]))))
 (T.ret (.tuple #[.int .u32 (IntKind.wrap .u32 n3),vI n2]))))))
 (T.loop [(false,[.int .i64]),(false,[.int .u64])] [vI n1,.int .u64 0] <| fun n2 n3 =>
 cond (decide (n2<(s0.size:Int)))
 (T.need (((0:Int)≤n2)∧(n2<(s0.size:Int))) <|
 T.call Tryz.prog 67 [.int .u8 (sbyte s0 n2)] false [(false,[.bool])] <| fun b4 =>
 cond b4
 (cond (decide ((IntKind.wrap .i64 (n2-n1))<(12:Int)))
 (T.need (((0:Int)≤n2)∧(n2<(s0.size:Int))) <|
 T.again 0 [vI (IntKind.wrap .i64 (n2+(1:Int))),.int .u64 (IntKind.wrap .u64 ((IntKind.wrap .u64 (n3*(10:Int)))+(IntKind.wrap .u64 (IntKind.wrap .u8 ((sbyte s0 n2)-(48:Int))))))])
 (cond (decide ((IntKind.wrap .i64 (n2-n1))>(10:Int)))
 (T.ret (.tuple #[.int .u32 0,vI 0]))
 (cond (decide (n3>(4294967295:Int)))
 (T.ret (.tuple #[.int .u32 0,vI 0]))
 (T.need (((0:Int)≤n1)∧(n1<(s0.size:Int))) <|
 cond ((sbyte s0 n1)==(48:Int))
 (cond (decide ((IntKind.wrap .i64 (n2-n1))>(1:Int)))
 (T.ret (.tuple #[.int .u32 0,vI 0]))
 (cond (decide (n2<(s0.size:Int)))
 (T.need (((0:Int)≤n2)∧(n2<(s0.size:Int))) <|
 T.call Tryz.prog 66 [.int .u8 (sbyte s0 n2)] false [(false,[.bool])] <| fun b5 =>
 cond b5
 (T.ret (.tuple #[.int .u32 0,vI 0]))
 (T.need (((0:Int)≤n2)∧(n2<(s0.size:Int))) <|
 T.call Tryz.prog 67 [.int .u8 (sbyte s0 n2)] false [(false,[.bool])] <| fun b6 =>
 cond b6
 (T.ret (.tuple #[.int .u32 0,vI 0]))
 (T.ret (.tuple #[.int .u32 (IntKind.wrap .u32 n3),vI n2]))))
 (T.ret (.tuple #[.int .u32 (IntKind.wrap .u32 n3),vI n2]))))
 (cond (decide (n2<(s0.size:Int)))
 (T.need (((0:Int)≤n2)∧(n2<(s0.size:Int))) <|
 T.call Tryz.prog 66 [.int .u8 (sbyte s0 n2)] false [(false,[.bool])] <| fun b5 =>
 cond b5
 (T.ret (.tuple #[.int .u32 0,vI 0]))
 (T.need (((0:Int)≤n2)∧(n2<(s0.size:Int))) <|
 T.call Tryz.prog 67 [.int .u8 (sbyte s0 n2)] false [(false,[.bool])] <| fun b6 =>
 cond b6
 (T.ret (.tuple #[.int .u32 0,vI 0]))
 (T.ret (.tuple #[.int .u32 (IntKind.wrap .u32 n3),vI n2]))))
 (T.ret (.tuple #[.int .u32 (IntKind.wrap .u32 n3),vI n2])))))))
 (cond (decide ((IntKind.wrap .i64 (n2-n1))>(10:Int)))
 (T.ret (.tuple #[.int .u32 0,vI 0]))
 (cond (decide (n3>(4294967295:Int)))
 (T.ret (.tuple #[.int .u32 0,vI 0]))
 (T.need (((0:Int)≤n1)∧(n1<(s0.size:Int))) <|
 cond ((sbyte s0 n1)==(48:Int))
 (cond (decide ((IntKind.wrap .i64 (n2-n1))>(1:Int)))
 (T.ret (.tuple #[.int .u32 0,vI 0]))
 (cond (decide (n2<(s0.size:Int)))
 (T.need (((0:Int)≤n2)∧(n2<(s0.size:Int))) <|
 T.call Tryz.prog 66 [.int .u8 (sbyte s0 n2)] false [(false,[.bool])] <| fun b5 =>
 cond b5
 (T.ret (.tuple #[.int .u32 0,vI 0]))
 (T.need (((0:Int)≤n2)∧(n2<(s0.size:Int))) <|
 T.call Tryz.prog 67 [.int .u8 (sbyte s0 n2)] false [(false,[.bool])] <| fun b6 =>
 cond b6
 (T.ret (.tuple #[.int .u32 0,vI 0]))
 (T.ret (.tuple #[.int .u32 (IntKind.wrap .u32 n3),vI n2]))))
 (T.ret (.tuple #[.int .u32 (IntKind.wrap .u32 n3),vI n2]))))
 (cond (decide (n2<(s0.size:Int)))
 (T.need (((0:Int)≤n2)∧(n2<(s0.size:Int))) <|
 T.call Tryz.prog 66 [.int .u8 (sbyte s0 n2)] false [(false,[.bool])] <| fun b5 =>
 cond b5
 (T.ret (.tuple #[.int .u32 0,vI 0]))
 (T.need (((0:Int)≤n2)∧(n2<(s0.size:Int))) <|
 T.call Tryz.prog 67 [.int .u8 (sbyte s0 n2)] false [(false,[.bool])] <| fun b6 =>
 cond b6
 (T.ret (.tuple #[.int .u32 0,vI 0]))
 (T.ret (.tuple #[.int .u32 (IntKind.wrap .u32 n3),vI n2]))))
 (T.ret (.tuple #[.int .u32 (IntKind.wrap .u32 n3),vI n2])))))))
 (cond (decide ((IntKind.wrap .i64 (n2-n1))>(10:Int)))
 (T.ret (.tuple #[.int .u32 0,vI 0]))
 (cond (decide (n3>(4294967295:Int)))
 (T.ret (.tuple #[.int .u32 0,vI 0]))
 (T.need (((0:Int)≤n1)∧(n1<(s0.size:Int))) <|
 cond ((sbyte s0 n1)==(48:Int))
 (cond (decide ((IntKind.wrap .i64 (n2-n1))>(1:Int)))
 (T.ret (.tuple #[.int .u32 0,vI 0]))
 (cond (decide (n2<(s0.size:Int)))
 (T.need (((0:Int)≤n2)∧(n2<(s0.size:Int))) <|
 T.call Tryz.prog 66 [.int .u8 (sbyte s0 n2)] false [(false,[.bool])] <| fun b4 =>
 cond b4
 (T.ret (.tuple #[.int .u32 0,vI 0]))
 (T.need (((0:Int)≤n2)∧(n2<(s0.size:Int))) <|
 T.call Tryz.prog 67 [.int .u8 (sbyte s0 n2)] false [(false,[.bool])] <| fun b5 =>
 cond b5
 (T.ret (.tuple #[.int .u32 0,vI 0]))
 (T.ret (.tuple #[.int .u32 (IntKind.wrap .u32 n3),vI n2]))))
 (T.ret (.tuple #[.int .u32 (IntKind.wrap .u32 n3),vI n2]))))
 (cond (decide (n2<(s0.size:Int)))
 (T.need (((0:Int)≤n2)∧(n2<(s0.size:Int))) <|
 T.call Tryz.prog 66 [.int .u8 (sbyte s0 n2)] false [(false,[.bool])] <| fun b4 =>
 cond b4
 (T.ret (.tuple #[.int .u32 0,vI 0]))
 (T.need (((0:Int)≤n2)∧(n2<(s0.size:Int))) <|
 T.call Tryz.prog 67 [.int .u8 (sbyte s0 n2)] false [(false,[.bool])] <| fun b5 =>
 cond b5
 (T.ret (.tuple #[.int .u32 0,vI 0]))
 (T.ret (.tuple #[.int .u32 (IntKind.wrap .u32 n3),vI n2]))))
 (T.ret (.tuple #[.int .u32 (IntKind.wrap .u32 n3),vI n2]))))))))
 (T.loop [(false,[.int .i64]),(false,[.int .u64])] [vI n1,.int .u64 0] <| fun n2 n3 =>
 cond (decide (n2<(s0.size:Int)))
 (T.need (((0:Int)≤n2)∧(n2<(s0.size:Int))) <|
 T.call Tryz.prog 67 [.int .u8 (sbyte s0 n2)] false [(false,[.bool])] <| fun b4 =>
 cond b4
 (cond (decide ((IntKind.wrap .i64 (n2-n1))<(12:Int)))
 (T.need (((0:Int)≤n2)∧(n2<(s0.size:Int))) <|
 T.again 0 [vI (IntKind.wrap .i64 (n2+(1:Int))),.int .u64 (IntKind.wrap .u64 ((IntKind.wrap .u64 (n3*(10:Int)))+(IntKind.wrap .u64 (IntKind.wrap .u8 ((sbyte s0 n2)-(48:Int))))))])
 (cond (decide ((IntKind.wrap .i64 (n2-n1))>(10:Int)))
 (T.ret (.tuple #[.int .u32 0,vI 0]))
 (cond (decide (n3>(4294967295:Int)))
 (T.ret (.tuple #[.int .u32 0,vI 0]))
 (T.need (((0:Int)≤n1)∧(n1<(s0.size:Int))) <|
 cond ((sbyte s0 n1)==(48:Int))
 (cond (decide ((IntKind.wrap .i64 (n2-n1))>(1:Int)))
 (T.ret (.tuple #[.int .u32 0,vI 0]))
 (cond (decide (n2<(s0.size:Int)))
 (T.need (((0:Int)≤n2)∧(n2<(s0.size:Int))) <|
 T.call Tryz.prog 66 [.int .u8 (sbyte s0 n2)] false [(false,[.bool])] <| fun b5 =>
 cond b5
 (T.ret (.tuple #[.int .u32 0,vI 0]))
 (T.need (((0:Int)≤n2)∧(n2<(s0.size:Int))) <|
 T.call Tryz.prog 67 [.int .u8 (sbyte s0 n2)] false [(false,[.bool])] <| fun b6 =>
 cond b6
 (T.ret (.tuple #[.int .u32 0,vI 0]))
 (T.ret (.tuple #[.int .u32 (IntKind.wrap .u32 n3),vI n2]))))
 (T.ret (.tuple #[.int .u32 (IntKind.wrap .u32 n3),vI n2]))))
 (cond (decide (n2<(s0.size:Int)))
 (T.need (((0:Int)≤n2)∧(n2<(s0.size:Int))) <|
 T.call Tryz.prog 66 [.int .u8 (sbyte s0 n2)] false [(false,[.bool])] <| fun b5 =>
 cond b5
 (T.ret (.tuple #[.int .u32 0,vI 0]))
 (T.need (((0:Int)≤n2)∧(n2<(s0.size:Int))) <|
 T.call Tryz.prog 67 [.int .u8 (sbyte s0 n2)] false [(false,[.bool])] <| fun b6 =>
 cond b6
 (T.ret (.tuple #[.int .u32 0,vI 0]))
 (T.ret (.tuple #[.int .u32 (IntKind.wrap .u32 n3),vI n2]))))
 (T.ret (.tuple #[.int .u32 (IntKind.wrap .u32 n3),vI n2])))))))
 (cond (decide ((IntKind.wrap .i64 (n2-n1))>(10:Int)))
 (T.ret (.tuple #[.int .u32 0,vI 0]))
 (cond (decide (n3>(4294967295:Int)))
 (T.ret (.tuple #[.int .u32 0,vI 0]))
 (T.need (((0:Int)≤n1)∧(n1<(s0.size:Int))) <|
 cond ((sbyte s0 n1)==(48:Int))
 (cond (decide ((IntKind.wrap .i64 (n2-n1))>(1:Int)))
 (T.ret (.tuple #[.int .u32 0,vI 0]))
 (cond (decide (n2<(s0.size:Int)))
 (T.need (((0:Int)≤n2)∧(n2<(s0.size:Int))) <|
 T.call Tryz.prog 66 [.int .u8 (sbyte s0 n2)] false [(false,[.bool])] <| fun b5 =>
 cond b5
 (T.ret (.tuple #[.int .u32 0,vI 0]))
 (T.need (((0:Int)≤n2)∧(n2<(s0.size:Int))) <|
 T.call Tryz.prog 67 [.int .u8 (sbyte s0 n2)] false [(false,[.bool])] <| fun b6 =>
 cond b6
 (T.ret (.tuple #[.int .u32 0,vI 0]))
 (T.ret (.tuple #[.int .u32 (IntKind.wrap .u32 n3),vI n2]))))
 (T.ret (.tuple #[.int .u32 (IntKind.wrap .u32 n3),vI n2]))))
 (cond (decide (n2<(s0.size:Int)))
 (T.need (((0:Int)≤n2)∧(n2<(s0.size:Int))) <|
 T.call Tryz.prog 66 [.int .u8 (sbyte s0 n2)] false [(false,[.bool])] <| fun b5 =>
 cond b5
 (T.ret (.tuple #[.int .u32 0,vI 0]))
 (T.need (((0:Int)≤n2)∧(n2<(s0.size:Int))) <|
 T.call Tryz.prog 67 [.int .u8 (sbyte s0 n2)] false [(false,[.bool])] <| fun b6 =>
 cond b6
 (T.ret (.tuple #[.int .u32 0,vI 0]))
 (T.ret (.tuple #[.int .u32 (IntKind.wrap .u32 n3),vI n2]))))
 (T.ret (.tuple #[.int .u32 (IntKind.wrap .u32 n3),vI n2])))))))
 (cond (decide ((IntKind.wrap .i64 (n2-n1))>(10:Int)))
 (T.ret (.tuple #[.int .u32 0,vI 0]))
 (cond (decide (n3>(4294967295:Int)))
 (T.ret (.tuple #[.int .u32 0,vI 0]))
 (T.need (((0:Int)≤n1)∧(n1<(s0.size:Int))) <|
 cond ((sbyte s0 n1)==(48:Int))
 (cond (decide ((IntKind.wrap .i64 (n2-n1))>(1:Int)))
 (T.ret (.tuple #[.int .u32 0,vI 0]))
 (cond (decide (n2<(s0.size:Int)))
 (T.need (((0:Int)≤n2)∧(n2<(s0.size:Int))) <|
 T.call Tryz.prog 66 [.int .u8 (sbyte s0 n2)] false [(false,[.bool])] <| fun b4 =>
 cond b4
 (T.ret (.tuple #[.int .u32 0,vI 0]))
 (T.need (((0:Int)≤n2)∧(n2<(s0.size:Int))) <|
 T.call Tryz.prog 67 [.int .u8 (sbyte s0 n2)] false [(false,[.bool])] <| fun b5 =>
 cond b5
 (T.ret (.tuple #[.int .u32 0,vI 0]))
 (T.ret (.tuple #[.int .u32 (IntKind.wrap .u32 n3),vI n2]))))
 (T.ret (.tuple #[.int .u32 (IntKind.wrap .u32 n3),vI n2]))))
 (cond (decide (n2<(s0.size:Int)))
 (T.need (((0:Int)≤n2)∧(n2<(s0.size:Int))) <|
 T.call Tryz.prog 66 [.int .u8 (sbyte s0 n2)] false [(false,[.bool])] <| fun b4 =>
 cond b4
 (T.ret (.tuple #[.int .u32 0,vI 0]))
 (T.need (((0:Int)≤n2)∧(n2<(s0.size:Int))) <|
 T.call Tryz.prog 67 [.int .u8 (sbyte s0 n2)] false [(false,[.bool])] <| fun b5 =>
 cond b5
 (T.ret (.tuple #[.int .u32 0,vI 0]))
 (T.ret (.tuple #[.int .u32 (IntKind.wrap .u32 n3),vI n2]))))
 (T.ret (.tuple #[.int .u32 (IntKind.wrap .u32 n3),vI n2]))))))))
 (T.loop [(false,[.int .i64]),(false,[.int .u64])] [vI n1,.int .u64 0] <| fun n2 n3 =>
 cond (decide (n2<(s0.size:Int)))
 (T.need (((0:Int)≤n2)∧(n2<(s0.size:Int))) <|
 T.call Tryz.prog 67 [.int .u8 (sbyte s0 n2)] false [(false,[.bool])] <| fun b4 =>
 cond b4
 (cond (decide ((IntKind.wrap .i64 (n2-n1))<(12:Int)))
 (T.need (((0:Int)≤n2)∧(n2<(s0.size:Int))) <|
 T.again 0 [vI (IntKind.wrap .i64 (n2+(1:Int))),.int .u64 (IntKind.wrap .u64 ((IntKind.wrap .u64 (n3*(10:Int)))+(IntKind.wrap .u64 (IntKind.wrap .u8 ((sbyte s0 n2)-(48:Int))))))])
 (cond (decide ((IntKind.wrap .i64 (n2-n1))>(10:Int)))
 (T.ret (.tuple #[.int .u32 0,vI 0]))
 (cond (decide (n3>(4294967295:Int)))
 (T.ret (.tuple #[.int .u32 0,vI 0]))
 (T.need (((0:Int)≤n1)∧(n1<(s0.size:Int))) <|
 cond ((sbyte s0 n1)==(48:Int))
 (cond (decide ((IntKind.wrap .i64 (n2-n1))>(1:Int)))
 (T.ret (.tuple #[.int .u32 0,vI 0]))
 (cond (decide (n2<(s0.size:Int)))
 (T.need (((0:Int)≤n2)∧(n2<(s0.size:Int))) <|
 T.call Tryz.prog 66 [.int .u8 (sbyte s0 n2)] false [(false,[.bool])] <| fun b5 =>
 cond b5
 (T.ret (.tuple #[.int .u32 0,vI 0]))
 (T.need (((0:Int)≤n2)∧(n2<(s0.size:Int))) <|
 T.call Tryz.prog 67 [.int .u8 (sbyte s0 n2)] false [(false,[.bool])] <| fun b6 =>
 cond b6
 (T.ret (.tuple #[.int .u32 0,vI 0]))
 (T.ret (.tuple #[.int .u32 (IntKind.wrap .u32 n3),vI n2]))))
 (T.ret (.tuple #[.int .u32 (IntKind.wrap .u32 n3),vI n2]))))
 (cond (decide (n2<(s0.size:Int)))
 (T.need (((0:Int)≤n2)∧(n2<(s0.size:Int))) <|
 T.call Tryz.prog 66 [.int .u8 (sbyte s0 n2)] false [(false,[.bool])] <| fun b5 =>
 cond b5
 (T.ret (.tuple #[.int .u32 0,vI 0]))
 (T.need (((0:Int)≤n2)∧(n2<(s0.size:Int))) <|
 T.call Tryz.prog 67 [.int .u8 (sbyte s0 n2)] false [(false,[.bool])] <| fun b6 =>
 cond b6
 (T.ret (.tuple #[.int .u32 0,vI 0]))
 (T.ret (.tuple #[.int .u32 (IntKind.wrap .u32 n3),vI n2]))))
 (T.ret (.tuple #[.int .u32 (IntKind.wrap .u32 n3),vI n2])))))))
 (cond (decide ((IntKind.wrap .i64 (n2-n1))>(10:Int)))
 (T.ret (.tuple #[.int .u32 0,vI 0]))
 (cond (decide (n3>(4294967295:Int)))
 (T.ret (.tuple #[.int .u32 0,vI 0]))
 (T.need (((0:Int)≤n1)∧(n1<(s0.size:Int))) <|
 cond ((sbyte s0 n1)==(48:Int))
 (cond (decide ((IntKind.wrap .i64 (n2-n1))>(1:Int)))
 (T.ret (.tuple #[.int .u32 0,vI 0]))
 (cond (decide (n2<(s0.size:Int)))
 (T.need (((0:Int)≤n2)∧(n2<(s0.size:Int))) <|
 T.call Tryz.prog 66 [.int .u8 (sbyte s0 n2)] false [(false,[.bool])] <| fun b5 =>
 cond b5
 (T.ret (.tuple #[.int .u32 0,vI 0]))
 (T.need (((0:Int)≤n2)∧(n2<(s0.size:Int))) <|
 T.call Tryz.prog 67 [.int .u8 (sbyte s0 n2)] false [(false,[.bool])] <| fun b6 =>
 cond b6
 (T.ret (.tuple #[.int .u32 0,vI 0]))
 (T.ret (.tuple #[.int .u32 (IntKind.wrap .u32 n3),vI n2]))))
 (T.ret (.tuple #[.int .u32 (IntKind.wrap .u32 n3),vI n2]))))
 (cond (decide (n2<(s0.size:Int)))
 (T.need (((0:Int)≤n2)∧(n2<(s0.size:Int))) <|
 T.call Tryz.prog 66 [.int .u8 (sbyte s0 n2)] false [(false,[.bool])] <| fun b5 =>
 cond b5
 (T.ret (.tuple #[.int .u32 0,vI 0]))
 (T.need (((0:Int)≤n2)∧(n2<(s0.size:Int))) <|
 T.call Tryz.prog 67 [.int .u8 (sbyte s0 n2)] false [(false,[.bool])] <| fun b6 =>
 cond b6
 (T.ret (.tuple #[.int .u32 0,vI 0]))
 (T.ret (.tuple #[.int .u32 (IntKind.wrap .u32 n3),vI n2]))))
 (T.ret (.tuple #[.int .u32 (IntKind.wrap .u32 n3),vI n2])))))))
 (cond (decide ((IntKind.wrap .i64 (n2-n1))>(10:Int)))
 (T.ret (.tuple #[.int .u32 0,vI 0]))
 (cond (decide (n3>(4294967295:Int)))
 (T.ret (.tuple #[.int .u32 0,vI 0]))
 (T.need (((0:Int)≤n1)∧(n1<(s0.size:Int))) <|
 cond ((sbyte s0 n1)==(48:Int))
 (cond (decide ((IntKind.wrap .i64 (n2-n1))>(1:Int)))
 (T.ret (.tuple #[.int .u32 0,vI 0]))
 (cond (decide (n2<(s0.size:Int)))
 (T.need (((0:Int)≤n2)∧(n2<(s0.size:Int))) <|
 T.call Tryz.prog 66 [.int .u8 (sbyte s0 n2)] false [(false,[.bool])] <| fun b4 =>
 cond b4
 (T.ret (.tuple #[.int .u32 0,vI 0]))
 (T.need (((0:Int)≤n2)∧(n2<(s0.size:Int))) <|
 T.call Tryz.prog 67 [.int .u8 (sbyte s0 n2)] false [(false,[.bool])] <| fun b5 =>
 cond b5
 (T.ret (.tuple #[.int .u32 0,vI 0]))
 (T.ret (.tuple #[.int .u32 (IntKind.wrap .u32 n3),vI n2]))))
 (T.ret (.tuple #[.int .u32 (IntKind.wrap .u32 n3),vI n2]))))
 (cond (decide (n2<(s0.size:Int)))
 (T.need (((0:Int)≤n2)∧(n2<(s0.size:Int))) <|
 T.call Tryz.prog 66 [.int .u8 (sbyte s0 n2)] false [(false,[.bool])] <| fun b4 =>
 cond b4
 (T.ret (.tuple #[.int .u32 0,vI 0]))
 (T.need (((0:Int)≤n2)∧(n2<(s0.size:Int))) <|
 T.call Tryz.prog 67 [.int .u8 (sbyte s0 n2)] false [(false,[.bool])] <| fun b5 =>
 cond b5
 (T.ret (.tuple #[.int .u32 0,vI 0]))
 (T.ret (.tuple #[.int .u32 (IntKind.wrap .u32 n3),vI n2]))))
 (T.ret (.tuple #[.int .u32 (IntKind.wrap .u32 n3),vI n2]))))))))
theorem t_spandrelref2_number_eq (s0:ByteArray) (n1:Int):xfun Tryz.prog [] Tryz.f72 [.string s0,vI n1]=t_spandrelref2_number s0 n1:=by kernel_rfl
def t_spandrelref2_hex (n0:Int):T :=
 T.call Tryz.prog 67 [.int .u8 n0] false [(false,[.bool])] <| fun b1 =>
 cond b1
 (T.ret (vI (IntKind.wrap .i64 (IntKind.wrap .u8 (n0-(48:Int))))))
 (cond (decide (n0≥(97:Int)))
 (cond (decide (n0≤(102:Int)))
 (T.ret (vI (IntKind.wrap .i64 ((IntKind.wrap .i64 (IntKind.wrap .u8 (n0-(97:Int))))+(10:Int)))))
 (T.ret (vI (-1:Int))))
 (T.ret (vI (-1:Int))))
theorem t_spandrelref2_hex_eq (n0:Int):xfun Tryz.prog [] Tryz.f95 [.int .u8 n0]=t_spandrelref2_hex n0:=by kernel_rfl
end Go.Sx
