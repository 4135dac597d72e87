/- Trees of functions, each checked by the kernel against the code. No condition. -/
import Derived.Test.YtfkjiiapldkoeaaGreatDoorSxF
import Derived.Test.YtfkjiiapldkoeaaGreatDoorProg
import Derived.KernelRfl
set_option linter.unusedVariables false
set_option linter.unusedSimpArgs false
set_option linter.deprecated false
set_option maxRecDepth 100000
namespace Go.Sx
open Go.Proofs
def t_spandrelref9_All (pp00:Option Addr) (ll00 cc00:Nat) (pp01:Option Addr) (ll01 cc01:Nat) (pp02:Option Addr) (ll02 cc02:Nat) (pp03:Option Addr) (ll03 cc03:Nat):T :=
 T.new [.slice pp00 ll00 cc00,.slice pp01 ll01 cc01,.slice pp02 ll02 cc02,.slice pp03 ll03 cc03] 27 <| fun a1 =>
 T.loads a1 [.slice 96] <| fun p2 l3 l4 =>
 T.loads (a1.add 1) [.slice 96] <| fun p5 l6 l7 =>
 T.call Tryz.prog 52 [.slice p2 l3 l4] false [(false,[.slice 9])] <| fun p8 l9 l10 =>
 T.stable [((a1.add 1),[.slice p5 l6 l7])] <|
 T.call Tryz.prog 52 [.slice p5 l6 l7] false [(false,[.slice 9])] <| fun p11 l12 l13 =>
 T.stable [(a1,[.slice p2 l3 l4])] <|
 T.sem Tryz.prog (Builtin.append_ #[25,25] 25 #[.slice p8 l9 l10,.slice p11 l12 l13]) false [(false,[.slice 0])] <| fun p14 l15 l16 =>
 T.stable [((a1.add 1),[.slice p5 l6 l7]),(a1,[.slice p2 l3 l4])] <|
 T.loop [(false,[.slice 0]),(false,[.int .i64])] [.slice p14 l15 l16,vI 0] <| fun p17 l18 l19 n20 =>
 T.loads (a1.add 2) [.slice 99] <| fun p21 l22 l23 =>
 cond (decide (n20<(l22:Int)))
 (T.loads (a1.add 2) [.slice 99] <| fun p24 l25 l26 =>
 T.need (((0:Int)≤n20)∧(n20<(l25:Int))) <|
 T.osome p24 <| fun a27 =>
 T.loads (a27.add ((Int.toNat n20)*3)) [.string] <| fun s28 =>
 T.sem Tryz.prog (Instr.buildSlice 25 1 #[(0,.string s28)]) false [(false,[.slice 0])] <| fun p29 l30 l31 =>
 T.sem Tryz.prog (Builtin.append_ #[25,25] 25 #[.slice p17 l18 l19,.slice p29 l30 l31]) false [(false,[.slice 0])] <| fun p32 l33 l34 =>
 T.again 0 [.slice p32 l33 l34,vI (IntKind.wrap .i64 (n20+(1:Int)))])
 (T.ret (.slice p17 l18 l19))
theorem t_spandrelref9_All_eq (pp00:Option Addr) (ll00 cc00:Nat) (pp01:Option Addr) (ll01 cc01:Nat) (pp02:Option Addr) (ll02 cc02:Nat) (pp03:Option Addr) (ll03 cc03:Nat):xfun Tryz.prog [] Tryz.f23 [.agg #[.slice pp00 ll00 cc00,.slice pp01 ll01 cc01,.slice pp02 ll02 cc02,.slice pp03 ll03 cc03]]=t_spandrelref9_All pp00 ll00 cc00 pp01 ll01 cc01 pp02 ll02 cc02 pp03 ll03 cc03:=by kernel_rfl
def t_spandrelref9_Sorted (pp00:Option Addr) (ll00 cc00:Nat):T :=
 T.loop [(false,[.slice 0]),(false,[.int .i64])] [.slice none 0 0,vI 0] <| fun p1 l2 l3 n4 =>
 cond (decide (n4<(ll00:Int)))
 (T.need (((0:Int)≤n4)∧(n4<(ll00:Int))) <|
 T.osome pp00 <| fun a5 =>
 T.loads (a5.add ((Int.toNat n4)*1)) [.string] <| fun s6 =>
 T.call Tryz.prog 50 [.slice p1 l2 l3,.string s6] false [(false,[.bool])] <| fun b7 =>
 cond b7
 (T.again 0 [.slice p1 l2 l3,vI (IntKind.wrap .i64 (n4+(1:Int)))])
 (T.need (((0:Int)≤n4)∧(n4<(ll00:Int))) <|
 T.osome pp00 <| fun a8 =>
 T.loads (a8.add ((Int.toNat n4)*1)) [.string] <| fun s9 =>
 T.sem Tryz.prog (Instr.buildSlice 25 1 #[(0,.string s9)]) false [(false,[.slice 0])] <| fun p10 l11 l12 =>
 T.sem Tryz.prog (Builtin.append_ #[25,25] 25 #[.slice p1 l2 l3,.slice p10 l11 l12]) false [(false,[.slice 0])] <| fun p13 l14 l15 =>
 T.loop [(false,[.int .i64])] [vI (l2:Int)] <| fun n16 =>
 cond (decide (n16>(0:Int)))
 (T.need (((0:Int)≤(IntKind.wrap .i64 (n16-(1:Int))))∧((IntKind.wrap .i64 (n16-(1:Int)))<(l14:Int))) <|
 T.osome p13 <| fun a17 =>
 T.loads (a17.add ((Int.toNat (IntKind.wrap .i64 (n16-(1:Int))))*1)) [.string] <| fun s18 =>
 T.need (((0:Int)≤n4)∧(n4<(ll00:Int))) <|
 T.osome pp00 <| fun a19 =>
 T.loads (a19.add ((Int.toNat n4)*1)) [.string] <| fun s20 =>
 cond (!((Op.bytesLess (ByteArray.toList s18) (ByteArray.toList s20)) || ((ByteArray.toList s18)==(ByteArray.toList s20))))
 (T.need (((0:Int)≤(IntKind.wrap .i64 (n16-(1:Int))))∧((IntKind.wrap .i64 (n16-(1:Int)))<(l14:Int))) <|
 T.osome p13 <| fun a21 =>
 T.loads (a21.add ((Int.toNat (IntKind.wrap .i64 (n16-(1:Int))))*1)) [.string] <| fun s22 =>
 T.need (((0:Int)≤n16)∧(n16<(l14:Int))) <|
 T.osome p13 <| fun a23 =>
 T.stores (a23.add ((Int.toNat n16)*1)) [.string s22] <|
 T.again 1 [vI (IntKind.wrap .i64 (n16-(1:Int)))])
 (T.need (((0:Int)≤n4)∧(n4<(ll00:Int))) <|
 T.osome pp00 <| fun a21 =>
 T.loads (a21.add ((Int.toNat n4)*1)) [.string] <| fun s22 =>
 T.need (((0:Int)≤n16)∧(n16<(l14:Int))) <|
 T.osome p13 <| fun a23 =>
 T.stores (a23.add ((Int.toNat n16)*1)) [.string s22] <|
 T.again 0 [.slice p13 l14 l15,vI (IntKind.wrap .i64 (n4+(1:Int)))]))
 (T.need (((0:Int)≤n4)∧(n4<(ll00:Int))) <|
 T.osome pp00 <| fun a17 =>
 T.loads (a17.add ((Int.toNat n4)*1)) [.string] <| fun s18 =>
 T.need (((0:Int)≤n16)∧(n16<(l14:Int))) <|
 T.osome p13 <| fun a19 =>
 T.stores (a19.add ((Int.toNat n16)*1)) [.string s18] <|
 T.again 0 [.slice p13 l14 l15,vI (IntKind.wrap .i64 (n4+(1:Int)))])))
 (T.ret (.slice p1 l2 l3))
theorem t_spandrelref9_Sorted_eq (pp00:Option Addr) (ll00 cc00:Nat):xfun Tryz.prog [] Tryz.f22 [.slice pp00 ll00 cc00]=t_spandrelref9_Sorted pp00 ll00 cc00:=by kernel_rfl
def t_spandrelref9_Has (pp00:Option Addr) (ll00 cc00:Nat) (s1:ByteArray):T :=
 T.loop [(false,[.bool]),(false,[.int .i64])] [.bool false,vI 0] <| fun b2 n3 =>
 cond (decide (n3<(ll00:Int)))
 (T.need (((0:Int)≤n3)∧(n3<(ll00:Int))) <|
 T.osome pp00 <| fun a4 =>
 T.loads (a4.add ((Int.toNat n3)*1)) [.string] <| fun s5 =>
 cond ((ByteArray.toList s5)==(ByteArray.toList s1))
 (T.ret (.bool true))
 (T.again 0 [.bool b2,vI (IntKind.wrap .i64 (n3+(1:Int)))]))
 (T.ret (.bool false))
theorem t_spandrelref9_Has_eq (pp00:Option Addr) (ll00 cc00:Nat) (s1:ByteArray):xfun Tryz.prog [] Tryz.f50 [.slice pp00 ll00 cc00,.string s1]=t_spandrelref9_Has pp00 ll00 cc00 s1:=by kernel_rfl
def t_spandrelref9_labels (pp00:Option Addr) (ll00 cc00:Nat):T :=
 T.loop [(false,[.slice 0]),(false,[.int .i64])] [.slice none 0 0,vI 0] <| fun p1 l2 l3 n4 =>
 cond (decide (n4<(ll00:Int)))
 (T.need (((0:Int)≤n4)∧(n4<(ll00:Int))) <|
 T.osome pp00 <| fun a5 =>
 T.loads (a5.add ((Int.toNat n4)*10)) [.int .i64] <| fun n6 =>
 cond (n6==(1:Int))
 (T.need (((0:Int)≤n4)∧(n4<(ll00:Int))) <|
 T.osome pp00 <| fun a7 =>
 T.loads ((a7.add ((Int.toNat n4)*10)).add 1) [.string] <| fun s8 =>
 T.sem Tryz.prog (Instr.buildSlice 25 1 #[(0,.string s8)]) false [(false,[.slice 0])] <| fun p9 l10 l11 =>
 T.sem Tryz.prog (Builtin.append_ #[25,25] 25 #[.slice p1 l2 l3,.slice p9 l10 l11]) false [(false,[.slice 0])] <| fun p12 l13 l14 =>
 T.again 0 [.slice p12 l13 l14,vI (IntKind.wrap .i64 (n4+(1:Int)))])
 (T.again 0 [.slice p1 l2 l3,vI (IntKind.wrap .i64 (n4+(1:Int)))]))
 (T.ret (.slice p1 l2 l3))
theorem t_spandrelref9_labels_eq (pp00:Option Addr) (ll00 cc00:Nat):xfun Tryz.prog [] Tryz.f52 [.slice pp00 ll00 cc00]=t_spandrelref9_labels pp00 ll00 cc00:=by kernel_rfl
end Go.Sx
