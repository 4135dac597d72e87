/- Trees of functions, each checked by the kernel against the code. No condition. -/
import Derived.Test.YtfkjiiapldkoeaaGreatDoorSxF
import Derived.Test.YtfkjiiapldkoeaaGreatDoorProg
import Derived.KernelRfl
set_option linter.unusedVariables false
set_option linter.unusedSimpArgs false
set_option linter.deprecated false
set_option maxRecDepth 100000
namespace Go.Sx
open Go.Proofs
def t_spandrelkeep_SameItem (n0:Int) (s1_0:ByteArray) (n2_0:Int) (n3_0:Int) (n4_0:Int) (n5_0:Int) (n6_0:Int) (pp07:Option Addr) (ll07 cc07:Nat) (n8_0:Int) (n9_0:Int) (n1:Int) (s1_1:ByteArray) (n2_1:Int) (n3_1:Int) (n4_1:Int) (n5_1:Int) (n6_1:Int) (pp17:Option Addr) (ll17 cc17:Nat) (n8_1:Int) (n9_1:Int):T :=
 T.new [vI n0,.string s1_0,vI n2_0,vI n3_0,vI n4_0,.int .i32 n5_0,vI n6_0,.slice pp07 ll07 cc07,.int .u32 n8_0,vI n9_0] 96 <| fun a2 =>
 T.new [vI n1,.string s1_1,vI n2_1,vI n3_1,vI n4_1,.int .i32 n5_1,vI n6_1,.slice pp17 ll17 cc17,.int .u32 n8_1,vI n9_1] 96 <| fun a3 =>
 T.loads a2 [.int .i64] <| fun n4 =>
 T.loads a3 [.int .i64] <| fun n5 =>
 cond (n4==n5)
 (T.loads (a2.add 1) [.string] <| fun s6 =>
 T.loads (a3.add 1) [.string] <| fun s7 =>
 cond ((ByteArray.toList s6)==(ByteArray.toList s7))
 (T.loads (a2.add 2) [.int .i64,.int .i64,.int .i64,.int .i32,.int .i64] <| fun n8 n9 n10 n11 n12 =>
 T.loads (a3.add 2) [.int .i64,.int .i64,.int .i64,.int .i32,.int .i64] <| fun n13 n14 n15 n16 n17 =>
 T.sem Tryz.prog (Sx.cmpS (BinOp.eql) 90 (Operand.tmp 19) (Operand.tmp 21) (.agg #[vI n8,vI n9,vI n10,.int .i32 n11,vI n12]) (.agg #[vI n13,vI n14,vI n15,.int .i32 n16,vI n17])) false [(false,[.bool])] <| fun b18 =>
 cond b18
 (T.loads (a2.add 7) [.slice 109,.int .u32] <| fun p19 l20 l21 n22 =>
 T.loads (a3.add 7) [.slice 109,.int .u32] <| fun p23 l24 l25 n26 =>
 T.call Tryz.prog 75 [.agg #[.slice p19 l20 l21,.int .u32 n22],.agg #[.slice p23 l24 l25,.int .u32 n26]] false [(false,[.bool])] <| fun b27 =>
 cond b27
 (T.loads (a2.add 9) [.int .i64] <| fun n28 =>
 T.loads (a3.add 9) [.int .i64] <| fun n29 =>
 T.ret (.bool (n28==n29)))
 (T.ret (.bool false)))
 (T.ret (.bool false)))
 (T.ret (.bool false)))
 (T.ret (.bool false))
theorem t_spandrelkeep_SameItem_eq (n0:Int) (s1_0:ByteArray) (n2_0:Int) (n3_0:Int) (n4_0:Int) (n5_0:Int) (n6_0:Int) (pp07:Option Addr) (ll07 cc07:Nat) (n8_0:Int) (n9_0:Int) (n1:Int) (s1_1:ByteArray) (n2_1:Int) (n3_1:Int) (n4_1:Int) (n5_1:Int) (n6_1:Int) (pp17:Option Addr) (ll17 cc17:Nat) (n8_1:Int) (n9_1:Int):xfun Tryz.prog [] Tryz.f61 [.agg #[vI n0,.string s1_0,vI n2_0,vI n3_0,vI n4_0,.int .i32 n5_0,vI n6_0,.slice pp07 ll07 cc07,.int .u32 n8_0,vI n9_0],.agg #[vI n1,.string s1_1,vI n2_1,vI n3_1,vI n4_1,.int .i32 n5_1,vI n6_1,.slice pp17 ll17 cc17,.int .u32 n8_1,vI n9_1]]=t_spandrelkeep_SameItem n0 s1_0 n2_0 n3_0 n4_0 n5_0 n6_0 pp07 ll07 cc07 n8_0 n9_0 n1 s1_1 n2_1 n3_1 n4_1 n5_1 n6_1 pp17 ll17 cc17 n8_1 n9_1:=by kernel_rfl
def t_spandrelkeep_SameItems (pp00:Option Addr) (ll00 cc00:Nat) (pp10:Option Addr) (ll10 cc10:Nat):T :=
 cond ((ll00:Int) != (ll10:Int))
 (T.ret (.bool false))
 (T.loop [(false,[.bool]),(false,[.int .i64])] [.bool false,vI 0] <| fun b2 n3 =>
 cond (decide (n3<(ll00:Int)))
 (T.need (((0:Int)≤n3)∧(n3<(ll00:Int))) <|
 T.osome pp00 <| fun a4 =>
 T.loads (a4.add ((Int.toNat n3)*10)) yI <| fun n5 s6 n7 n8 n9 n10 n11 p12 l13 l14 n15 n16 =>
 T.need (((0:Int)≤n3)∧(n3<(ll10:Int))) <|
 T.osome pp10 <| fun a17 =>
 T.loads (a17.add ((Int.toNat n3)*10)) yI <| fun n18 s19 n20 n21 n22 n23 n24 p25 l26 l27 n28 n29 =>
 T.call Tryz.prog 61 [.agg #[vI n5,.string s6,vI n7,vI n8,vI n9,.int .i32 n10,vI n11,.slice p12 l13 l14,.int .u32 n15,vI n16],.agg #[vI n18,.string s19,vI n20,vI n21,vI n22,.int .i32 n23,vI n24,.slice p25 l26 l27,.int .u32 n28,vI n29]] false [(false,[.bool])] <| fun b30 =>
 cond (!b30)
 (T.ret (.bool false))
 (T.again 0 [.bool b2,vI (IntKind.wrap .i64 (n3+(1:Int)))]))
 (T.ret (.bool true)))
theorem t_spandrelkeep_SameItems_eq (pp00:Option Addr) (ll00 cc00:Nat) (pp10:Option Addr) (ll10 cc10:Nat):xfun Tryz.prog [] Tryz.f31 [.slice pp00 ll00 cc00,.slice pp10 ll10 cc10]=t_spandrelkeep_SameItems pp00 ll00 cc00 pp10 ll10 cc10:=by kernel_rfl
def t_spandrelkeep_SameEqus (pp00:Option Addr) (ll00 cc00:Nat) (pp10:Option Addr) (ll10 cc10:Nat):T :=
 cond ((ll00:Int) != (ll10:Int))
 (T.ret (.bool false))
 (T.loop [(false,[.bool]),(false,[.int .i64])] [.bool false,vI 0] <| fun b2 n3 =>
 cond (decide (n3<(ll00:Int)))
 (T.need (((0:Int)≤n3)∧(n3<(ll00:Int))) <|
 T.osome pp00 <| fun a4 =>
 T.loads (a4.add ((Int.toNat n3)*3)) [.string] <| fun s5 =>
 T.need (((0:Int)≤n3)∧(n3<(ll10:Int))) <|
 T.osome pp10 <| fun a6 =>
 T.loads (a6.add ((Int.toNat n3)*3)) [.string] <| fun s7 =>
 cond (!((ByteArray.toList s5)==(ByteArray.toList s7)))
 (T.ret (.bool false))
 (T.need (((0:Int)≤n3)∧(n3<(ll00:Int))) <|
 T.osome pp00 <| fun a8 =>
 T.loads ((a8.add ((Int.toNat n3)*3)).add 1) [.slice 109,.int .u32] <| fun p9 l10 l11 n12 =>
 T.need (((0:Int)≤n3)∧(n3<(ll10:Int))) <|
 T.osome pp10 <| fun a13 =>
 T.loads ((a13.add ((Int.toNat n3)*3)).add 1) [.slice 109,.int .u32] <| fun p14 l15 l16 n17 =>
 T.call Tryz.prog 75 [.agg #[.slice p9 l10 l11,.int .u32 n12],.agg #[.slice p14 l15 l16,.int .u32 n17]] false [(false,[.bool])] <| fun b18 =>
 T.stable [((a6.add ((Int.toNat n3)*3)),[.string s7]),((a4.add ((Int.toNat n3)*3)),[.string s5])] <|
 cond (!b18)
 (T.ret (.bool false))
 (T.again 0 [.bool b2,vI (IntKind.wrap .i64 (n3+(1:Int)))])))
 (T.ret (.bool true)))
theorem t_spandrelkeep_SameEqus_eq (pp00:Option Addr) (ll00 cc00:Nat) (pp10:Option Addr) (ll10 cc10:Nat):xfun Tryz.prog [] Tryz.f41 [.slice pp00 ll00 cc00,.slice pp10 ll10 cc10]=t_spandrelkeep_SameEqus pp00 ll00 cc00 pp10 ll10 cc10:=by kernel_rfl
def t_spandrelbook_Same_string_ (pp00:Option Addr) (ll00 cc00:Nat) (pp10:Option Addr) (ll10 cc10:Nat):T :=
 cond ((ll00:Int) != (ll10:Int))
 (T.ret (.bool false))
 (T.loop [(false,[.bool]),(false,[.int .i64])] [.bool false,vI 0] <| fun b2 n3 =>
 cond (decide (n3<(ll00:Int)))
 (T.need (((0:Int)≤n3)∧(n3<(ll00:Int))) <|
 T.osome pp00 <| fun a4 =>
 T.loads (a4.add ((Int.toNat n3)*1)) [.string] <| fun s5 =>
 T.need (((0:Int)≤n3)∧(n3<(ll10:Int))) <|
 T.osome pp10 <| fun a6 =>
 T.loads (a6.add ((Int.toNat n3)*1)) [.string] <| fun s7 =>
 cond (!((ByteArray.toList s5)==(ByteArray.toList s7)))
 (T.ret (.bool false))
 (T.again 0 [.bool b2,vI (IntKind.wrap .i64 (n3+(1:Int)))]))
 (T.ret (.bool true)))
theorem t_spandrelbook_Same_string__eq (pp00:Option Addr) (ll00 cc00:Nat) (pp10:Option Addr) (ll10 cc10:Nat):xfun Tryz.prog [] Tryz.f15 [.slice pp00 ll00 cc00,.slice pp10 ll10 cc10]=t_spandrelbook_Same_string_ pp00 ll00 cc00 pp10 ll10 cc10:=by kernel_rfl
def t_spandrelkeep_SameUnit (pp00:Option Addr) (ll00 cc00:Nat) (pp01:Option Addr) (ll01 cc01:Nat) (pp02:Option Addr) (ll02 cc02:Nat) (pp03:Option Addr) (ll03 cc03:Nat) (pp10:Option Addr) (ll10 cc10:Nat) (pp11:Option Addr) (ll11 cc11:Nat) (pp12:Option Addr) (ll12 cc12:Nat) (pp13:Option Addr) (ll13 cc13:Nat):T :=
 T.new [.slice pp00 ll00 cc00,.slice pp01 ll01 cc01,.slice pp02 ll02 cc02,.slice pp03 ll03 cc03] 27 <| fun a2 =>
 T.new [.slice pp10 ll10 cc10,.slice pp11 ll11 cc11,.slice pp12 ll12 cc12,.slice pp13 ll13 cc13] 27 <| fun a3 =>
 T.loads a2 [.slice 96] <| fun p4 l5 l6 =>
 T.loads a3 [.slice 96] <| fun p7 l8 l9 =>
 T.call Tryz.prog 31 [.slice p4 l5 l6,.slice p7 l8 l9] false [(false,[.bool])] <| fun b10 =>
 cond b10
 (T.loads (a2.add 1) [.slice 96] <| fun p11 l12 l13 =>
 T.loads (a3.add 1) [.slice 96] <| fun p14 l15 l16 =>
 T.call Tryz.prog 31 [.slice p11 l12 l13,.slice p14 l15 l16] false [(false,[.bool])] <| fun b17 =>
 cond b17
 (T.loads (a2.add 2) [.slice 99] <| fun p18 l19 l20 =>
 T.loads (a3.add 2) [.slice 99] <| fun p21 l22 l23 =>
 T.call Tryz.prog 41 [.slice p18 l19 l20,.slice p21 l22 l23] false [(false,[.bool])] <| fun b24 =>
 cond b24
 (T.loads (a2.add 3) [.slice 9] <| fun p25 l26 l27 =>
 T.loads (a3.add 3) [.slice 9] <| fun p28 l29 l30 =>
 T.call Tryz.prog 15 [.slice p25 l26 l27,.slice p28 l29 l30] false [(false,[.bool])] <| fun b31 =>
 T.ret (.bool b31))
 (T.ret (.bool false)))
 (T.ret (.bool false)))
 (T.ret (.bool false))
theorem t_spandrelkeep_SameUnit_eq (pp00:Option Addr) (ll00 cc00:Nat) (pp01:Option Addr) (ll01 cc01:Nat) (pp02:Option Addr) (ll02 cc02:Nat) (pp03:Option Addr) (ll03 cc03:Nat) (pp10:Option Addr) (ll10 cc10:Nat) (pp11:Option Addr) (ll11 cc11:Nat) (pp12:Option Addr) (ll12 cc12:Nat) (pp13:Option Addr) (ll13 cc13:Nat):xfun Tryz.prog [] Tryz.f13 [.agg #[.slice pp00 ll00 cc00,.slice pp01 ll01 cc01,.slice pp02 ll02 cc02,.slice pp03 ll03 cc03],.agg #[.slice pp10 ll10 cc10,.slice pp11 ll11 cc11,.slice pp12 ll12 cc12,.slice pp13 ll13 cc13]]=t_spandrelkeep_SameUnit pp00 ll00 cc00 pp01 ll01 cc01 pp02 ll02 cc02 pp03 ll03 cc03 pp10 ll10 cc10 pp11 ll11 cc11 pp12 ll12 cc12 pp13 ll13 cc13:=by kernel_rfl
def t__api_Errno__Error (n0:Int):T :=
 cond (n0==(0:Int))
 (T.ret (.string ⟨#[110,111,32,101,114,114,111,114]⟩))
 (cond (n0==(1:Int))
 (T.ret (.string ⟨#[97,110,32,97,114,103,117,109,101,110,116,32,116,104,97,116,32,109,97,121,32,110,111,116,32,98,101]⟩))
 (cond (n0==(20:Int))
 (T.ret (.string ⟨#[97,32,108,105,110,101,32,116,104,97,116,32,99,97,110,39,116,32,98,101,32,114,101,97,100]⟩))
 (cond (n0==(23:Int))
 (T.ret (.string ⟨#[97,32,110,97,109,101,32,116,104,97,116,32,110,111,98,111,100,121,32,103,105,118,101,115]⟩))
 (cond (decide (n0<(0:Int)))
 (T.loop [(false,[.int .i64]),(false,[.slice 0])] [vI 0,.slice none 0 0] <| fun n1 p2 l3 l4 =>
 cond (decide (n1>(0:Int)))
 (T.need ((10:Int)≠(0:Int)) <|
 T.sem Tryz.prog (Instr.buildSlice 42 1 #[(0,.int .u8 (IntKind.wrap .u8 (IntKind.wrap .i64 ((48:Int)+(Int.tmod n1 (10:Int))))))]) false [(false,[.slice 0])] <| fun p5 l6 l7 =>
 T.sem Tryz.prog (Builtin.append_ #[42,42] 42 #[.slice p5 l6 l7,.slice p2 l3 l4]) false [(false,[.slice 0])] <| fun p8 l9 l10 =>
 T.need ((10:Int)≠(0:Int)) <|
 T.again 0 [vI (IntKind.wrap .i64 (Int.tdiv n1 (10:Int))),.slice p8 l9 l10])
 (cond ((l3:Int)==(0:Int))
 (T.need ((10:Int)≠(0:Int)) <|
 T.sem Tryz.prog (Instr.buildSlice 42 1 #[(0,.int .u8 (IntKind.wrap .u8 (IntKind.wrap .i64 ((48:Int)+(Int.tmod n1 (10:Int))))))]) false [(false,[.slice 0])] <| fun p5 l6 l7 =>
 T.sem Tryz.prog (Builtin.append_ #[42,42] 42 #[.slice p5 l6 l7,.slice p2 l3 l4]) false [(false,[.slice 0])] <| fun p8 l9 l10 =>
 T.need ((10:Int)≠(0:Int)) <|
 T.again 0 [vI (IntKind.wrap .i64 (Int.tdiv n1 (10:Int))),.slice p8 l9 l10])
 (T.sem Tryz.prog (convert 42 9 (.slice p2 l3 l4)) false [(false,[.string])] <| fun s5 =>
 T.need ((((8+s5.size):Nat):Int)≤(9223372036854775807:Int)) <|
 T.ret (.string (⟨#[114,101,102,117,115,97,108,32]⟩++s5)))))
 (T.loop [(false,[.int .i64]),(false,[.slice 0])] [vI n0,.slice none 0 0] <| fun n1 p2 l3 l4 =>
 cond (decide (n1>(0:Int)))
 (T.need ((10:Int)≠(0:Int)) <|
 T.sem Tryz.prog (Instr.buildSlice 42 1 #[(0,.int .u8 (IntKind.wrap .u8 (IntKind.wrap .i64 ((48:Int)+(Int.tmod n1 (10:Int))))))]) false [(false,[.slice 0])] <| fun p5 l6 l7 =>
 T.sem Tryz.prog (Builtin.append_ #[42,42] 42 #[.slice p5 l6 l7,.slice p2 l3 l4]) false [(false,[.slice 0])] <| fun p8 l9 l10 =>
 T.need ((10:Int)≠(0:Int)) <|
 T.again 0 [vI (IntKind.wrap .i64 (Int.tdiv n1 (10:Int))),.slice p8 l9 l10])
 (cond ((l3:Int)==(0:Int))
 (T.need ((10:Int)≠(0:Int)) <|
 T.sem Tryz.prog (Instr.buildSlice 42 1 #[(0,.int .u8 (IntKind.wrap .u8 (IntKind.wrap .i64 ((48:Int)+(Int.tmod n1 (10:Int))))))]) false [(false,[.slice 0])] <| fun p5 l6 l7 =>
 T.sem Tryz.prog (Builtin.append_ #[42,42] 42 #[.slice p5 l6 l7,.slice p2 l3 l4]) false [(false,[.slice 0])] <| fun p8 l9 l10 =>
 T.need ((10:Int)≠(0:Int)) <|
 T.again 0 [vI (IntKind.wrap .i64 (Int.tdiv n1 (10:Int))),.slice p8 l9 l10])
 (T.sem Tryz.prog (convert 42 9 (.slice p2 l3 l4)) false [(false,[.string])] <| fun s5 =>
 T.need ((((8+s5.size):Nat):Int)≤(9223372036854775807:Int)) <|
 T.ret (.string (⟨#[114,101,102,117,115,97,108,32]⟩++s5)))))))))
theorem t__api_Errno__Error_eq (n0:Int):xfun Tryz.prog [] Tryz.f72 [vI n0]=t__api_Errno__Error n0:=by kernel_rfl
def t_unit_Refusal__Error (p0:Option Addr):T :=
 T.osome p0 <| fun a1 =>
 T.loads a1 [.int .i64] <| fun n2 =>
 T.osome p0 <| fun a3 =>
 T.loads (a3.add 1) [.int .i64] <| fun n4 =>
 T.call Tryz.prog 71 [vI n2] false [(false,[.string])] <| fun s5 =>
 T.stable [((a3.add 1),[vI n4])] <|
 T.need ((((5+s5.size):Nat):Int)≤(9223372036854775807:Int)) <|
 T.need (((((ByteArray.size (⟨#[108,105,110,101,32]⟩++s5))+2):Nat):Int)≤(9223372036854775807:Int)) <|
 T.call Tryz.prog 72 [vI n4] false [(false,[.string])] <| fun s6 =>
 T.stable [(a1,[vI n2])] <|
 T.need (((((ByteArray.size ((⟨#[108,105,110,101,32]⟩++s5)++⟨#[58,32]⟩))+s6.size):Nat):Int)≤(9223372036854775807:Int)) <|
 T.ret (.string (((⟨#[108,105,110,101,32]⟩++s5)++⟨#[58,32]⟩)++s6))
theorem t_unit_Refusal__Error_eq (p0:Option Addr):xfun Tryz.prog [] Tryz.f37 [.pointer p0]=t_unit_Refusal__Error p0:=by kernel_rfl
def t_unit_Refusal__Unwrap (p0:Option Addr):T :=
 T.osome p0 <| fun a1 =>
 T.loads (a1.add 1) [.int .i64] <| fun n2 =>
 T.ret (.iface 44 (vI n2))
theorem t_unit_Refusal__Unwrap_eq (p0:Option Addr):xfun Tryz.prog [] Tryz.f39 [.pointer p0]=t_unit_Refusal__Unwrap p0:=by kernel_rfl
def t_spandrellaw9_sameErr (v0:Value) (v1:Value):T :=
 T.sem Tryz.prog (Sx.cmpS (BinOp.eql) 29 (Operand.tmp 5) (Operand.const Value.nilIface) v0 .nilIface) false [(false,[.bool])] <| fun b2 =>
 cond b2
 (T.sem Tryz.prog (Sx.cmpS (BinOp.eql) 29 (Operand.tmp 11) (Operand.const Value.nilIface) v0 .nilIface) false [(false,[.bool])] <| fun b3 =>
 cond b3
 (T.sem Tryz.prog (Sx.cmpS (BinOp.eql) 29 (Operand.tmp 14) (Operand.const Value.nilIface) v1 .nilIface) false [(false,[.bool])] <| fun b4 =>
 T.ret (.bool b4))
 (T.ret (.bool false)))
 (T.sem Tryz.prog (Sx.cmpS (BinOp.eql) 29 (Operand.tmp 8) (Operand.const Value.nilIface) v1 .nilIface) false [(false,[.bool])] <| fun b3 =>
 cond b3
 (T.sem Tryz.prog (Sx.cmpS (BinOp.eql) 29 (Operand.tmp 11) (Operand.const Value.nilIface) v0 .nilIface) false [(false,[.bool])] <| fun b4 =>
 cond b4
 (T.sem Tryz.prog (Sx.cmpS (BinOp.eql) 29 (Operand.tmp 14) (Operand.const Value.nilIface) v1 .nilIface) false [(false,[.bool])] <| fun b5 =>
 T.ret (.bool b5))
 (T.ret (.bool false)))
 (T.sem Tryz.prog (Sx.cmpS (BinOp.eql) 29 (Operand.tmp 17) (Operand.tmp 18) v0 v1) false [(false,[.bool])] <| fun b4 =>
 T.ret (.bool b4)))
theorem t_spandrellaw9_sameErr_eq (v0:Value) (v1:Value):xfun Tryz.prog [] Tryz.f38 [v0,v1]=t_spandrellaw9_sameErr v0 v1:=by kernel_rfl
end Go.Sx
