/- Trees of functions, each checked by the kernel against the code. No condition. -/
import Derived.Test.YtgnhjkofpmchpaaGreatDoorSxF
import Derived.Test.YtgnhjkofpmchpaaGreatDoorProg
import Derived.KernelRfl
set_option linter.unusedVariables false
set_option linter.unusedSimpArgs false
set_option linter.deprecated false
set_option maxRecDepth 100000
namespace Go.Sx
open Go.Proofs
def t_spandrelref4_Add (pp00:Option Addr) (ll00 cc00:Nat) (n1_0:Int) (pp10:Option Addr) (ll10 cc10:Nat) (n1_1:Int):T :=
 T.new [.slice pp00 ll00 cc00,.int .u32 n1_0] 26 <| fun a2 =>
 T.new [.slice pp10 ll10 cc10,.int .u32 n1_1] 26 <| fun a3 =>
 T.new [.slice none 0 0,.int .u32 0] 26 <| fun a4 =>
 T.loads (a2.add 1) [.int .u32] <| fun n5 =>
 T.loads (a3.add 1) [.int .u32] <| fun n6 =>
 T.new [.slice none 0 0,.int .u32 0] 26 <| fun a7 =>
 T.stores a7 [.slice none 0 0,.int .u32 (IntKind.wrap .u32 (n5+n6))] <|
 T.loop [(false,[.int .i64]),(false,[.int .i64])] [vI 0,vI 0] <| fun n8 n9 =>
 T.join [(false,[.bool])]
 (T.loads a2 [.slice 50] <| fun p10 l11 l12 =>
 cond (decide (n8<(l11:Int)))
 (T.again 1 [.bool true])
 (T.loads a3 [.slice 50] <| fun p13 l14 l15 =>
 T.again 1 [.bool (decide (n9<(l14:Int)))])) <| fun b10 =>
 cond b10
 (T.join [(false,[.bool])]
 (T.loads a3 [.slice 50] <| fun p11 l12 l13 =>
 cond (n9==(l12:Int))
 (T.again 1 [.bool true])
 (T.loads a2 [.slice 50] <| fun p14 l15 l16 =>
 cond (decide (n8<(l15:Int)))
 (T.loads a2 [.slice 50] <| fun p17 l18 l19 =>
 T.need (((0:Int)≤n8)∧(n8<(l18:Int))) <|
 T.osome p17 <| fun a20 =>
 T.loads (a20.add ((Int.toNat n8)*2)) [.string] <| fun s21 =>
 T.loads a3 [.slice 50] <| fun p22 l23 l24 =>
 T.need (((0:Int)≤n9)∧(n9<(l23:Int))) <|
 T.osome p22 <| fun a25 =>
 T.loads (a25.add ((Int.toNat n9)*2)) [.string] <| fun s26 =>
 T.again 1 [.bool (Op.bytesLess (ByteArray.toList s21) (ByteArray.toList s26))])
 (T.again 1 [.bool false]))) <| fun b11 =>
 cond b11
 (T.loads a7 [.slice 50] <| fun p12 l13 l14 =>
 T.loads a2 [.slice 50] <| fun p15 l16 l17 =>
 T.need (((0:Int)≤n8)∧(n8<(l16:Int))) <|
 T.osome p15 <| fun a18 =>
 T.loads (a18.add ((Int.toNat n8)*2)) [.string,.int .u32] <| fun s19 n20 =>
 T.sem Tryz.prog (Instr.buildSlice 23 1 #[(0,.agg #[.string s19,.int .u32 n20])]) false [(false,[.slice 0])] <| fun p21 l22 l23 =>
 T.stable [(a2,[.slice p15 l16 l17]),(a7,[.slice p12 l13 l14])] <|
 T.sem Tryz.prog (Builtin.append_ #[23,23] 23 #[.slice p12 l13 l14,.slice p21 l22 l23]) false [(false,[.slice 0])] <| fun p24 l25 l26 =>
 T.stable [((a18.add ((Int.toNat n8)*2)),[.string s19,.int .u32 n20]),(a2,[.slice p15 l16 l17])] <|
 T.stores a7 [.slice p24 l25 l26] <|
 T.again 0 [vI (IntKind.wrap .i64 (n8+(1:Int))),vI n9])
 (T.join [(false,[.bool])]
 (T.loads a2 [.slice 50] <| fun p12 l13 l14 =>
 cond (n8==(l13:Int))
 (T.again 1 [.bool true])
 (T.loads a3 [.slice 50] <| fun p15 l16 l17 =>
 T.need (((0:Int)≤n9)∧(n9<(l16:Int))) <|
 T.osome p15 <| fun a18 =>
 T.loads (a18.add ((Int.toNat n9)*2)) [.string] <| fun s19 =>
 T.loads a2 [.slice 50] <| fun p20 l21 l22 =>
 T.need (((0:Int)≤n8)∧(n8<(l21:Int))) <|
 T.osome p20 <| fun a23 =>
 T.loads (a23.add ((Int.toNat n8)*2)) [.string] <| fun s24 =>
 T.again 1 [.bool (Op.bytesLess (ByteArray.toList s19) (ByteArray.toList s24))])) <| fun b12 =>
 cond b12
 (T.loads a7 [.slice 50] <| fun p13 l14 l15 =>
 T.loads a3 [.slice 50] <| fun p16 l17 l18 =>
 T.need (((0:Int)≤n9)∧(n9<(l17:Int))) <|
 T.osome p16 <| fun a19 =>
 T.loads (a19.add ((Int.toNat n9)*2)) [.string,.int .u32] <| fun s20 n21 =>
 T.sem Tryz.prog (Instr.buildSlice 23 1 #[(0,.agg #[.string s20,.int .u32 n21])]) false [(false,[.slice 0])] <| fun p22 l23 l24 =>
 T.stable [(a3,[.slice p16 l17 l18]),(a7,[.slice p13 l14 l15])] <|
 T.sem Tryz.prog (Builtin.append_ #[23,23] 23 #[.slice p13 l14 l15,.slice p22 l23 l24]) false [(false,[.slice 0])] <| fun p25 l26 l27 =>
 T.stable [((a19.add ((Int.toNat n9)*2)),[.string s20,.int .u32 n21]),(a3,[.slice p16 l17 l18])] <|
 T.stores a7 [.slice p25 l26 l27] <|
 T.again 0 [vI n8,vI (IntKind.wrap .i64 (n9+(1:Int)))])
 (T.loads a2 [.slice 50] <| fun p13 l14 l15 =>
 T.need (((0:Int)≤n8)∧(n8<(l14:Int))) <|
 T.osome p13 <| fun a16 =>
 T.loads ((a16.add ((Int.toNat n8)*2)).add 1) [.int .u32] <| fun n17 =>
 T.loads a3 [.slice 50] <| fun p18 l19 l20 =>
 T.need (((0:Int)≤n9)∧(n9<(l19:Int))) <|
 T.osome p18 <| fun a21 =>
 T.loads ((a21.add ((Int.toNat n9)*2)).add 1) [.int .u32] <| fun n22 =>
 T.join []
 (cond ((IntKind.wrap .u32 (n17+n22)) != (0:Int))
 (T.loads a7 [.slice 50] <| fun p23 l24 l25 =>
 T.loads a2 [.slice 50] <| fun p26 l27 l28 =>
 T.need (((0:Int)≤n8)∧(n8<(l27:Int))) <|
 T.osome p26 <| fun a29 =>
 T.loads (a29.add ((Int.toNat n8)*2)) [.string] <| fun s30 =>
 T.sem Tryz.prog (Instr.buildSlice 23 1 #[(0,.agg #[.string s30,.int .u32 (IntKind.wrap .u32 (n17+n22))])]) false [(false,[.slice 0])] <| fun p31 l32 l33 =>
 T.stable [((a29.add ((Int.toNat n8)*2)),[.string s30]),(a2,[.slice p26 l27 l28]),(a7,[.slice p23 l24 l25])] <|
 T.sem Tryz.prog (Builtin.append_ #[23,23] 23 #[.slice p23 l24 l25,.slice p31 l32 l33]) false [(false,[.slice 0])] <| fun p34 l35 l36 =>
 T.stable [((a29.add ((Int.toNat n8)*2)),[.string s30]),(a2,[.slice p26 l27 l28])] <|
 T.stores a7 [.slice p34 l35 l36] <|
 T.again 1 [])
 (T.again 1 [])) <| T.again 0 [vI (IntKind.wrap .i64 (n8+(1:Int))),vI (IntKind.wrap .i64 (n9+(1:Int)))])))
 (T.loads a7 [.slice 50,.int .u32] <| fun p11 l12 l13 n14 =>
 T.stores a4 [.slice p11 l12 l13,.int .u32 n14] <|
 T.loads a4 [.slice 50,.int .u32] <| fun p15 l16 l17 n18 =>
 T.ret (.agg #[.slice p15 l16 l17,.int .u32 n18]))
theorem t_spandrelref4_Add_eq (pp00:Option Addr) (ll00 cc00:Nat) (n1_0:Int) (pp10:Option Addr) (ll10 cc10:Nat) (n1_1:Int):xfun Tryz.prog [4,5,8,1014] Tryz.f108 [.agg #[.slice pp00 ll00 cc00,.int .u32 n1_0],.agg #[.slice pp10 ll10 cc10,.int .u32 n1_1]]=t_spandrelref4_Add pp00 ll00 cc00 n1_0 pp10 ll10 cc10 n1_1:=by kernel_rfl
end Go.Sx
