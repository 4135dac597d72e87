/- Trees of functions, each checked by the kernel against the code. No condition. -/
import Derived.Test.YtgnhjkofpmchpaaGreatDoorSxF
import Derived.Test.YtgnhjkofpmchpaaGreatDoorProg
import Derived.KernelRfl
set_option linter.unusedVariables false
set_option linter.unusedSimpArgs false
set_option linter.deprecated false
set_option maxRecDepth 100000
namespace Go.Sx
open Go.Proofs
def t_spandrelkeep_SameItem (n0:Int) (s1_0:ByteArray) (n2_0:Int) (n3_0:Int) (n4_0:Int) (n5_0:Int) (n6_0:Int) (pp07:Option Addr) (ll07 cc07:Nat) (n8_0:Int) (n9_0:Int) (n1:Int) (s1_1:ByteArray) (n2_1:Int) (n3_1:Int) (n4_1:Int) (n5_1:Int) (n6_1:Int) (pp17:Option Addr) (ll17 cc17:Nat) (n8_1:Int) (n9_1:Int):T :=
 T.new [vI n0,.string s1_0,vI n2_0,vI n3_0,vI n4_0,.int .i32 n5_0,vI n6_0,.slice pp07 ll07 cc07,.int .u32 n8_0,vI n9_0] 54 <| fun a2 =>
 T.new [vI n1,.string s1_1,vI n2_1,vI n3_1,vI n4_1,.int .i32 n5_1,vI n6_1,.slice pp17 ll17 cc17,.int .u32 n8_1,vI n9_1] 54 <| fun a3 =>
 T.loads a2 [.int .i64] <| fun n4 =>
 T.loads a3 [.int .i64] <| fun n5 =>
 cond (n4==n5)
 (T.loads (a2.add 1) [.string] <| fun s6 =>
 T.loads (a3.add 1) [.string] <| fun s7 =>
 cond ((ByteArray.toList s6)==(ByteArray.toList s7))
 (T.loads (a2.add 2) [.int .i64,.int .i64,.int .i64,.int .i32,.int .i64] <| fun n8 n9 n10 n11 n12 =>
 T.loads (a3.add 2) [.int .i64,.int .i64,.int .i64,.int .i32,.int .i64] <| fun n13 n14 n15 n16 n17 =>
 T.sem Tryz.prog (Sx.cmpS (BinOp.eql) 52 (Operand.tmp 19) (Operand.tmp 21) (.agg #[vI n8,vI n9,vI n10,.int .i32 n11,vI n12]) (.agg #[vI n13,vI n14,vI n15,.int .i32 n16,vI n17])) false [(false,[.bool])] <| fun b18 =>
 cond b18
 (T.loads (a2.add 7) [.slice 50,.int .u32] <| fun p19 l20 l21 n22 =>
 T.loads (a3.add 7) [.slice 50,.int .u32] <| fun p23 l24 l25 n26 =>
 T.call Tryz.prog 26 [.agg #[.slice p19 l20 l21,.int .u32 n22],.agg #[.slice p23 l24 l25,.int .u32 n26]] false [(false,[.bool])] <| fun b27 =>
 cond b27
 (T.loads (a2.add 9) [.int .i64] <| fun n28 =>
 T.loads (a3.add 9) [.int .i64] <| fun n29 =>
 T.ret (.bool (n28==n29)))
 (T.ret (.bool false)))
 (T.ret (.bool false)))
 (T.ret (.bool false)))
 (T.ret (.bool false))
theorem t_spandrelkeep_SameItem_eq (n0:Int) (s1_0:ByteArray) (n2_0:Int) (n3_0:Int) (n4_0:Int) (n5_0:Int) (n6_0:Int) (pp07:Option Addr) (ll07 cc07:Nat) (n8_0:Int) (n9_0:Int) (n1:Int) (s1_1:ByteArray) (n2_1:Int) (n3_1:Int) (n4_1:Int) (n5_1:Int) (n6_1:Int) (pp17:Option Addr) (ll17 cc17:Nat) (n8_1:Int) (n9_1:Int):xfun Tryz.prog [] Tryz.f53 [.agg #[vI n0,.string s1_0,vI n2_0,vI n3_0,vI n4_0,.int .i32 n5_0,vI n6_0,.slice pp07 ll07 cc07,.int .u32 n8_0,vI n9_0],.agg #[vI n1,.string s1_1,vI n2_1,vI n3_1,vI n4_1,.int .i32 n5_1,vI n6_1,.slice pp17 ll17 cc17,.int .u32 n8_1,vI n9_1]]=t_spandrelkeep_SameItem n0 s1_0 n2_0 n3_0 n4_0 n5_0 n6_0 pp07 ll07 cc07 n8_0 n9_0 n1 s1_1 n2_1 n3_1 n4_1 n5_1 n6_1 pp17 ll17 cc17 n8_1 n9_1:=by kernel_rfl
def t_spandrelkeep_SameItems (pp00:Option Addr) (ll00 cc00:Nat) (pp10:Option Addr) (ll10 cc10:Nat):T :=
 cond ((ll00:Int) != (ll10:Int))
 (T.ret (.bool false))
 (T.loop [(false,[.bool]),(false,[.int .i64])] [.bool false,vI 0] <| fun b2 n3 =>
 cond (decide (n3<(ll00:Int)))
 (T.need (((0:Int)≤n3)∧(n3<(ll00:Int))) <|
 T.osome pp00 <| fun a4 =>
 T.loads (a4.add ((Int.toNat n3)*10)) yI <| fun n5 s6 n7 n8 n9 n10 n11 p12 l13 l14 n15 n16 =>
 T.need (((0:Int)≤n3)∧(n3<(ll10:Int))) <|
 T.osome pp10 <| fun a17 =>
 T.loads (a17.add ((Int.toNat n3)*10)) yI <| fun n18 s19 n20 n21 n22 n23 n24 p25 l26 l27 n28 n29 =>
 T.call Tryz.prog 53 [.agg #[vI n5,.string s6,vI n7,vI n8,vI n9,.int .i32 n10,vI n11,.slice p12 l13 l14,.int .u32 n15,vI n16],.agg #[vI n18,.string s19,vI n20,vI n21,vI n22,.int .i32 n23,vI n24,.slice p25 l26 l27,.int .u32 n28,vI n29]] false [(false,[.bool])] <| fun b30 =>
 cond (!b30)
 (T.ret (.bool false))
 (T.again 0 [.bool b2,vI (IntKind.wrap .i64 (n3+(1:Int)))]))
 (T.ret (.bool true)))
theorem t_spandrelkeep_SameItems_eq (pp00:Option Addr) (ll00 cc00:Nat) (pp10:Option Addr) (ll10 cc10:Nat):xfun Tryz.prog [] Tryz.f25 [.slice pp00 ll00 cc00,.slice pp10 ll10 cc10]=t_spandrelkeep_SameItems pp00 ll00 cc00 pp10 ll10 cc10:=by kernel_rfl
end Go.Sx
