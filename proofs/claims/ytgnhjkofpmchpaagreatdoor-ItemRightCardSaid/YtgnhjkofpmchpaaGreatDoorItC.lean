/- Trees of functions, each checked by the kernel against the code. No condition. -/
import Derived.Test.YtgnhjkofpmchpaaGreatDoorSxF
import Derived.Test.YtgnhjkofpmchpaaGreatDoorProg
import Derived.KernelRfl
set_option linter.unusedVariables false
set_option linter.unusedSimpArgs false
set_option linter.deprecated false
set_option maxRecDepth 100000
namespace Go.Sx
open Go.Proofs
def t_spandrelref8_args (n0:Int):T :=
 cond (n0==(1:Int))
 (T.ret (vI 0))
 (cond (n0==(2:Int))
 (cond (n0==(2:Int))
 (T.ret (vI 1))
 (cond (n0==(7:Int))
 (T.ret (vI 3))
 (T.ret (vI 2))))
 (cond (n0==(3:Int))
 (cond (n0==(3:Int))
 (T.ret (vI 1))
 (cond (n0==(7:Int))
 (T.ret (vI 3))
 (T.ret (vI 2))))
 (cond (n0==(9:Int))
 (cond (n0==(9:Int))
 (T.ret (vI 1))
 (cond (n0==(7:Int))
 (T.ret (vI 3))
 (T.ret (vI 2))))
 (cond (n0==(12:Int))
 (T.ret (vI 1))
 (cond (n0==(7:Int))
 (T.ret (vI 3))
 (T.ret (vI 2)))))))
theorem t_spandrelref8_args_eq (n0:Int):xfun Tryz.prog [] Tryz.f74 [vI n0]=t_spandrelref8_args n0:=by kernel_rfl
def t_spandrelref8_reg (pp00:Option Addr) (ll00 cc00:Nat) (b1:Bool):T :=
 cond ((ll00:Int) != (1:Int))
 (T.ret (.tuple #[vI 0,vI 20]))
 (T.need (((0:Int)≤(0:Int))∧((0:Int)<(ll00:Int))) <|
 T.osome pp00 <| fun a2 =>
 T.loads a2 [.int .i64] <| fun n3 =>
 cond (n3 != (1:Int))
 (T.ret (.tuple #[vI 0,vI 20]))
 (T.need (((0:Int)≤(0:Int))∧((0:Int)<(ll00:Int))) <|
 T.osome pp00 <| fun a4 =>
 T.loads (a4.add 1) [.string] <| fun s5 =>
 T.call Tryz.prog 68 [.string s5] true [(false,[.int .i64]),(false,[.bool]),(false,[.bool])] <| fun n6 b7 b8 =>
 cond (!b8)
 (T.ret (.tuple #[vI 0,vI 20]))
 (cond (!(b7==b1))
 (T.ret (.tuple #[vI 0,vI 20]))
 (T.ret (.tuple #[vI n6,vI 0])))))
theorem t_spandrelref8_reg_eq (pp00:Option Addr) (ll00 cc00:Nat) (b1:Bool):xfun Tryz.prog [] Tryz.f75 [.slice pp00 ll00 cc00,.bool b1]=t_spandrelref8_reg pp00 ll00 cc00 b1:=by kernel_rfl
def t_spandrelref8_constant (pp00:Option Addr) (ll00 cc00:Nat) (n1:Int) (n2:Int):T :=
 T.call Tryz.prog 77 [.slice pp00 ll00 cc00] true [(true,[.slice 50,.int .u32]),(false,[.int .i64])] <| fun p3 l4 l5 n6 n7 =>
 T.new [.slice none 0 0,.int .u32 0] 26 <| fun a8 =>
 T.stores a8 [.slice p3 l4 l5,.int .u32 n6] <|
 cond (n7 != (0:Int))
 (T.ret (.tuple #[vI 0,vI n7]))
 (T.loads (a8.add 1) [.int .u32] <| fun n9 =>
 T.loads a8 [.slice 50] <| fun p10 l11 l12 =>
 cond (decide ((l11:Int)>(0:Int)))
 (T.ret (.tuple #[vI 0,vI 21]))
 (cond (decide ((IntKind.wrap .i64 (IntKind.wrap .i32 n9))<n1))
 (T.ret (.tuple #[vI 0,vI 21]))
 (cond (decide ((IntKind.wrap .i64 (IntKind.wrap .i32 n9))>n2))
 (T.ret (.tuple #[vI 0,vI 21]))
 (T.ret (.tuple #[vI (IntKind.wrap .i64 (IntKind.wrap .i32 n9)),vI 0])))))
theorem t_spandrelref8_constant_eq (pp00:Option Addr) (ll00 cc00:Nat) (n1:Int) (n2:Int):xfun Tryz.prog [] Tryz.f76 [.slice pp00 ll00 cc00,vI n1,vI n2]=t_spandrelref8_constant pp00 ll00 cc00 n1 n2:=by kernel_rfl
def t_spandrelref8_named (pp00:Option Addr) (ll00 cc00:Nat):T :=
 cond ((ll00:Int) != (1:Int))
 (T.ret (.tuple #[.string ⟨#[]⟩,vI 20]))
 (T.need (((0:Int)≤(0:Int))∧((0:Int)<(ll00:Int))) <|
 T.osome pp00 <| fun a1 =>
 T.loads a1 [.int .i64] <| fun n2 =>
 cond (n2 != (1:Int))
 (T.ret (.tuple #[.string ⟨#[]⟩,vI 20]))
 (T.need (((0:Int)≤(0:Int))∧((0:Int)<(ll00:Int))) <|
 T.osome pp00 <| fun a3 =>
 T.loads (a3.add 1) [.string] <| fun s4 =>
 T.call Tryz.prog 39 [.string s4] false [(false,[.bool])] <| fun b5 =>
 cond (!b5)
 (T.ret (.tuple #[.string ⟨#[]⟩,vI 20]))
 (T.need (((0:Int)≤(0:Int))∧((0:Int)<(ll00:Int))) <|
 T.osome pp00 <| fun a6 =>
 T.loads (a6.add 1) [.string] <| fun s7 =>
 T.ret (.tuple #[.string s7,vI 0]))))
theorem t_spandrelref8_named_eq (pp00:Option Addr) (ll00 cc00:Nat):xfun Tryz.prog [] Tryz.f79 [.slice pp00 ll00 cc00]=t_spandrelref8_named pp00 ll00 cc00:=by kernel_rfl
def t_spandrelref8_several (s0:ByteArray) (pp10:Option Addr) (ll10 cc10:Nat):T :=
 T.new [vI 0,.slice none 0 0,.string ⟨#[]⟩,.slice none 0 0,.int .u32 0,vI 0] 30 <| fun a2 =>
 T.new [vI 0,.slice none 0 0,.string ⟨#[]⟩,.slice none 0 0,.int .u32 0,vI 0] 30 <| fun a3 =>
 T.stores a3 [vI 2,.slice none 0 0,.string ⟨#[]⟩,.slice none 0 0,.int .u32 0,vI 0] <|
 T.loop [(false,[.int .i64]),(false,[.int .i64])] [vI 0,vI 0] <| fun n4 n5 =>
 cond (decide (n5<(ll10:Int)))
 (T.new [vI 0,.string ⟨#[]⟩,vI 0,vI 0,vI 0,.int .i32 0,vI 0,.slice none 0 0,.int .u32 0,vI 0] 54 <| fun a6 =>
 T.stores a6 [vI 5,.string ⟨#[]⟩,vI 0,vI 0,vI 0,.int .i32 0,vI 0,.slice none 0 0,.int .u32 0,vI 0] <|
 cond ((ByteArray.toList s0)==[({ toBitVec:=98#8 }),({ toBitVec:=121#8 }),({ toBitVec:=116#8 }),({ toBitVec:=101#8 })])
 (T.need (((0:Int)≤n5)∧(n5<(ll10:Int))) <|
 T.osome pp10 <| fun a7 =>
 T.loads (a7.add ((Int.toNat n5)*1)) [.slice 101] <| fun p8 l9 l10 =>
 T.call Tryz.prog 76 [.slice p8 l9 l10,vI (-128:Int),vI 255] true [(false,[.int .i64]),(false,[.int .i64])] <| fun n11 n12 =>
 T.stores (a6.add 9) [vI n11] <|
 cond (n12 != (0:Int))
 (T.stores a2 [vI 0,.slice none 0 0,.string ⟨#[]⟩,.slice none 0 0,.int .u32 0,vI 0] <|
 T.loads a2 yT <| fun n13 p14 l15 l16 s17 p18 l19 l20 n21 n22 =>
 T.ret (.tuple #[.agg #[vI n13,.slice p14 l15 l16,.string s17,.slice p18 l19 l20,.int .u32 n21,vI n22],vI n12]))
 (T.loads (a3.add 1) [.slice 54] <| fun p13 l14 l15 =>
 T.loads a6 yI <| fun n16 s17 n18 n19 n20 n21 n22 p23 l24 l25 n26 n27 =>
 T.sem Tryz.prog (Instr.buildSlice 22 1 #[(0,.agg #[vI n16,.string s17,vI n18,vI n19,vI n20,.int .i32 n21,vI n22,.slice p23 l24 l25,.int .u32 n26,vI n27])]) false [(false,[.slice 0])] <| fun p28 l29 l30 =>
 T.sem Tryz.prog (Builtin.append_ #[22,22] 22 #[.slice p13 l14 l15,.slice p28 l29 l30]) false [(false,[.slice 0])] <| fun p31 l32 l33 =>
 T.stores (a3.add 1) [.slice p31 l32 l33] <|
 T.again 0 [vI n4,vI (IntKind.wrap .i64 (n5+(1:Int)))]))
 (T.stores a6 [vI 6] <|
 T.need (((0:Int)≤n5)∧(n5<(ll10:Int))) <|
 T.osome pp10 <| fun a7 =>
 T.loads (a7.add ((Int.toNat n5)*1)) [.slice 101] <| fun p8 l9 l10 =>
 T.call Tryz.prog 77 [.slice p8 l9 l10] true [(true,[.slice 50,.int .u32]),(false,[.int .i64])] <| fun p11 l12 l13 n14 n15 =>
 T.stores (a6.add 7) [.slice p11 l12 l13,.int .u32 n14] <|
 cond (n15 != (0:Int))
 (T.stores a2 [vI 0,.slice none 0 0,.string ⟨#[]⟩,.slice none 0 0,.int .u32 0,vI 0] <|
 T.loads a2 yT <| fun n16 p17 l18 l19 s20 p21 l22 l23 n24 n25 =>
 T.ret (.tuple #[.agg #[vI n16,.slice p17 l18 l19,.string s20,.slice p21 l22 l23,.int .u32 n24,vI n25],vI n15]))
 (T.loads (a3.add 1) [.slice 54] <| fun p16 l17 l18 =>
 T.loads a6 yI <| fun n19 s20 n21 n22 n23 n24 n25 p26 l27 l28 n29 n30 =>
 T.sem Tryz.prog (Instr.buildSlice 22 1 #[(0,.agg #[vI n19,.string s20,vI n21,vI n22,vI n23,.int .i32 n24,vI n25,.slice p26 l27 l28,.int .u32 n29,vI n30])]) false [(false,[.slice 0])] <| fun p31 l32 l33 =>
 T.sem Tryz.prog (Builtin.append_ #[22,22] 22 #[.slice p16 l17 l18,.slice p31 l32 l33]) false [(false,[.slice 0])] <| fun p34 l35 l36 =>
 T.stores (a3.add 1) [.slice p34 l35 l36] <|
 T.again 0 [vI n4,vI (IntKind.wrap .i64 (n5+(1:Int)))])))
 (T.loads a3 yT <| fun n6 p7 l8 l9 s10 p11 l12 l13 n14 n15 =>
 T.stores a2 [vI n6,.slice p7 l8 l9,.string s10,.slice p11 l12 l13,.int .u32 n14,vI n15] <|
 T.loads a2 yT <| fun n16 p17 l18 l19 s20 p21 l22 l23 n24 n25 =>
 T.ret (.tuple #[.agg #[vI n16,.slice p17 l18 l19,.string s20,.slice p21 l22 l23,.int .u32 n24,vI n25],vI 0]))
theorem t_spandrelref8_several_eq (s0:ByteArray) (pp10:Option Addr) (ll10 cc10:Nat):xfun Tryz.prog [] Tryz.f78 [.string s0,.slice pp10 ll10 cc10]=t_spandrelref8_several s0 pp10 ll10 cc10:=by kernel_rfl
def t_spandrelref5_Find (s0:ByteArray):T :=
 T.call Tryz.prog 73 [] false [(false,[.slice 137])] <| fun p1 l2 l3 =>
 T.loop [(false,[.int .i64]),(false,[.int .i64])] [vI 0,vI 0] <| fun n4 n5 =>
 cond (decide (n5<(l2:Int)))
 (T.need (((0:Int)≤n5)∧(n5<(l2:Int))) <|
 T.osome p1 <| fun a6 =>
 T.loads (a6.add ((Int.toNat n5)*3)) [.string] <| fun s7 =>
 cond ((ByteArray.toList s7)==(ByteArray.toList s0))
 (T.ret (vI (IntKind.wrap .i64 (n5+(1:Int)))))
 (T.again 0 [vI n4,vI (IntKind.wrap .i64 (n5+(1:Int)))]))
 (T.ret (vI 0))
theorem t_spandrelref5_Find_eq (s0:ByteArray):xfun Tryz.prog [] Tryz.f50 [.string s0]=t_spandrelref5_Find s0:=by kernel_rfl
end Go.Sx
