/- Trees of functions, each checked by the kernel against the code. No condition. -/
import Derived.Test.YtgnhjkofpmchpaaGreatDoorSxF
import Derived.Test.YtgnhjkofpmchpaaGreatDoorProg
import Derived.KernelRfl
set_option linter.unusedVariables false
set_option linter.unusedSimpArgs false
set_option linter.deprecated false
set_option maxRecDepth 100000
namespace Go.Sx
open Go.Proofs
def t_spandrelref5_Shape (n0:Int):T :=
 T.call Tryz.prog 73 [] false [(false,[.slice 137])] <| fun p1 l2 l3 =>
 cond (decide (n0<(1:Int)))
 (T.ret (vI 0))
 (cond (decide (n0>(l2:Int)))
 (T.ret (vI 0))
 (T.need (((0:Int)≤(IntKind.wrap .i64 (n0-(1:Int))))∧((IntKind.wrap .i64 (n0-(1:Int)))<(l2:Int))) <|
 T.osome p1 <| fun a4 =>
 T.loads ((a4.add ((Int.toNat (IntKind.wrap .i64 (n0-(1:Int))))*3)).add 2) [.int .i64] <| fun n5 =>
 T.ret (vI n5)))
theorem t_spandrelref5_Shape_eq (n0:Int):xfun Tryz.prog [] Tryz.f69 [vI n0]=t_spandrelref5_Shape n0:=by kernel_rfl
def t_spandrelref5_Spans (n0:Int):T :=
 T.call Tryz.prog 69 [vI n0] false [(false,[.int .i64])] <| fun n1 =>
 cond (n1==(12:Int))
 (T.ret (.bool true))
 (T.call Tryz.prog 69 [vI n0] false [(false,[.int .i64])] <| fun n2 =>
 T.ret (.bool (n2==(13:Int))))
theorem t_spandrelref5_Spans_eq (n0:Int):xfun Tryz.prog [] Tryz.f41 [vI n0]=t_spandrelref5_Spans n0:=by kernel_rfl
def t_spandrelref1_Fits (n0:Int) (n1:Int):T :=
 cond (n1==(1:Int))
 (cond (decide (n0≥(-128:Int)))
 (T.ret (.bool (decide (n0≤(127:Int)))))
 (T.ret (.bool false)))
 (cond (n1==(2:Int))
 (cond (decide (n0≥(-32768:Int)))
 (T.ret (.bool (decide (n0≤(32767:Int)))))
 (T.ret (.bool false)))
 (cond (n1==(4:Int))
 (T.ret (.bool true))
 (T.ret (.bool false))))
theorem t_spandrelref1_Fits_eq (n0:Int) (n1:Int):xfun Tryz.prog [] Tryz.f71 [.int .i32 n0,vI n1]=t_spandrelref1_Fits n0 n1:=by kernel_rfl
def t_spandrelref5_Check (n0:Int) (n1_0:Int) (n2_0:Int) (n3_0:Int) (n4_0:Int):T :=
 T.new [vI n0,vI n1_0,vI n2_0,.int .i32 n3_0,vI n4_0] 52 <| fun a1 =>
 T.loads a1 [.int .i64] <| fun n2 =>
 T.call Tryz.prog 69 [vI n2] false [(false,[.int .i64])] <| fun n3 =>
 cond (n3==(0:Int))
 (T.ret (vI 11))
 (T.loads a1 [.int .i64,.int .i64,.int .i64,.int .i32,.int .i64] <| fun n4 n5 n6 n7 n8 =>
 T.call Tryz.prog 70 [.agg #[vI n4,vI n5,vI n6,.int .i32 n7,vI n8]] false [(false,[.bool])] <| fun b9 =>
 cond (!b9)
 (T.ret (vI 12))
 (cond (n3==(12:Int))
 (T.loads (a1.add 4) [.int .i64] <| fun n10 =>
 cond (n10 != (1:Int))
 (T.loads (a1.add 4) [.int .i64] <| fun n11 =>
 cond (n11 != (2:Int))
 (T.loads (a1.add 4) [.int .i64] <| fun n12 =>
 cond (n12 != (4:Int))
 (T.ret (vI 13))
 (T.loads (a1.add 3) [.int .i32] <| fun n13 =>
 T.loads (a1.add 4) [.int .i64] <| fun n14 =>
 T.call Tryz.prog 71 [.int .i32 n13,vI n14] false [(false,[.bool])] <| fun b15 =>
 cond (!b15)
 (T.ret (vI 13))
 (T.ret (vI 0))))
 (T.loads (a1.add 3) [.int .i32] <| fun n12 =>
 T.loads (a1.add 4) [.int .i64] <| fun n13 =>
 T.call Tryz.prog 71 [.int .i32 n12,vI n13] false [(false,[.bool])] <| fun b14 =>
 cond (!b14)
 (T.ret (vI 13))
 (T.ret (vI 0))))
 (T.loads (a1.add 3) [.int .i32] <| fun n11 =>
 T.loads (a1.add 4) [.int .i64] <| fun n12 =>
 T.call Tryz.prog 71 [.int .i32 n11,vI n12] false [(false,[.bool])] <| fun b13 =>
 cond (!b13)
 (T.ret (vI 13))
 (T.ret (vI 0))))
 (cond (n3==(13:Int))
 (T.loads (a1.add 4) [.int .i64] <| fun n10 =>
 cond (n10 != (1:Int))
 (T.loads (a1.add 4) [.int .i64] <| fun n11 =>
 cond (n11 != (2:Int))
 (T.loads (a1.add 4) [.int .i64] <| fun n12 =>
 cond (n12 != (4:Int))
 (T.ret (vI 13))
 (T.loads (a1.add 3) [.int .i32] <| fun n13 =>
 T.loads (a1.add 4) [.int .i64] <| fun n14 =>
 T.call Tryz.prog 71 [.int .i32 n13,vI n14] false [(false,[.bool])] <| fun b15 =>
 cond (!b15)
 (T.ret (vI 13))
 (T.ret (vI 0))))
 (T.loads (a1.add 3) [.int .i32] <| fun n12 =>
 T.loads (a1.add 4) [.int .i64] <| fun n13 =>
 T.call Tryz.prog 71 [.int .i32 n12,vI n13] false [(false,[.bool])] <| fun b14 =>
 cond (!b14)
 (T.ret (vI 13))
 (T.ret (vI 0))))
 (T.loads (a1.add 3) [.int .i32] <| fun n11 =>
 T.loads (a1.add 4) [.int .i64] <| fun n12 =>
 T.call Tryz.prog 71 [.int .i32 n11,vI n12] false [(false,[.bool])] <| fun b13 =>
 cond (!b13)
 (T.ret (vI 13))
 (T.ret (vI 0))))
 (T.loads (a1.add 4) [.int .i64] <| fun n10 =>
 cond (n10 != (0:Int))
 (T.ret (vI 13))
 (T.loads (a1.add 3) [.int .i32] <| fun n11 =>
 cond (n3==(8:Int))
 (T.loads (a1.add 3) [.int .i32] <| fun n12 =>
 cond (decide (n12≥(-128:Int)))
 (T.loads (a1.add 3) [.int .i32] <| fun n13 =>
 cond (!(decide (n13≤(127:Int))))
 (T.ret (vI 13))
 (T.ret (vI 0)))
 (T.ret (vI 13)))
 (cond (n3==(9:Int))
 (T.loads (a1.add 3) [.int .i32] <| fun n12 =>
 cond (decide (n12≥(0:Int)))
 (T.loads (a1.add 3) [.int .i32] <| fun n13 =>
 cond (!(decide (n13≤(255:Int))))
 (T.ret (vI 13))
 (T.ret (vI 0)))
 (T.ret (vI 13)))
 (cond (n3==(11:Int))
 (T.loads (a1.add 3) [.int .i32] <| fun n12 =>
 cond (decide (n12≥(0:Int)))
 (T.loads (a1.add 3) [.int .i32] <| fun n13 =>
 cond (!(decide (n13≤(4095:Int))))
 (T.ret (vI 13))
 (T.ret (vI 0)))
 (T.ret (vI 13)))
 (cond (n3==(10:Int))
 (cond (n3==(10:Int))
 (T.ret (vI 0))
 (cond (!(n11==(0:Int)))
 (T.ret (vI 13))
 (T.ret (vI 0))))
 (cond (n3==(7:Int))
 (T.ret (vI 0))
 (cond (!(n11==(0:Int)))
 (T.ret (vI 13))
 (T.ret (vI 0))))))))))))
theorem t_spandrelref5_Check_eq (n0:Int) (n1_0:Int) (n2_0:Int) (n3_0:Int) (n4_0:Int):xfun Tryz.prog [] Tryz.f42 [.agg #[vI n0,vI n1_0,vI n2_0,.int .i32 n3_0,vI n4_0]]=t_spandrelref5_Check n0 n1_0 n2_0 n3_0 n4_0:=by kernel_rfl
def t_spandrelref8_HasE (n0:Int):T :=
 T.call Tryz.prog 69 [vI n0] false [(false,[.int .i64])] <| fun n1 =>
 cond (n1==(10:Int))
 (T.ret (.bool true))
 (cond (n1==(11:Int))
 (T.ret (.bool true))
 (cond (n1==(12:Int))
 (T.ret (.bool true))
 (T.ret (.bool (n1==(13:Int))))))
theorem t_spandrelref8_HasE_eq (n0:Int):xfun Tryz.prog [] Tryz.f43 [vI n0]=t_spandrelref8_HasE n0:=by kernel_rfl
def t_spandrelref8_bare (n0:Int) (s1_0:ByteArray) (n2_0:Int) (n3_0:Int) (n4_0:Int) (n5_0:Int) (n6_0:Int) (pp07:Option Addr) (ll07 cc07:Nat) (n8_0:Int) (n9_0:Int) (b1:Bool) (b2:Bool) (b3:Bool) (b4:Bool):T :=
 T.new [vI n0,.string s1_0,vI n2_0,vI n3_0,vI n4_0,.int .i32 n5_0,vI n6_0,.slice pp07 ll07 cc07,.int .u32 n8_0,vI n9_0] 54 <| fun a5 =>
 cond (!b1)
 (cond (!b2)
 (cond (!b3)
 (cond (!b4)
 (T.ret (.bool true))
 (T.loads (a5.add 9) [.int .i64] <| fun n6 =>
 T.ret (.bool (n6==(0:Int)))))
 (T.loads (a5.add 7) [.slice 50] <| fun p6 l7 l8 =>
 cond ((l7:Int)==(0:Int))
 (T.loads ((a5.add 7).add 1) [.int .u32] <| fun n9 =>
 cond (n9==(0:Int))
 (cond (!b4)
 (T.ret (.bool true))
 (T.loads (a5.add 9) [.int .i64] <| fun n10 =>
 T.ret (.bool (n10==(0:Int)))))
 (T.ret (.bool false)))
 (T.ret (.bool false))))
 (T.loads (a5.add 2) [.int .i64,.int .i64,.int .i64,.int .i32,.int .i64] <| fun n6 n7 n8 n9 n10 =>
 T.sem Tryz.prog (Sx.cmpS (BinOp.eql) 52 (Operand.tmp 23) (Operand.tmp 24) (.agg #[vI n6,vI n7,vI n8,.int .i32 n9,vI n10]) (.agg #[vI 0,vI 0,vI 0,.int .i32 0,vI 0])) false [(false,[.bool])] <| fun b11 =>
 cond b11
 (cond (!b3)
 (cond (!b4)
 (T.ret (.bool true))
 (T.loads (a5.add 9) [.int .i64] <| fun n12 =>
 T.ret (.bool (n12==(0:Int)))))
 (T.loads (a5.add 7) [.slice 50] <| fun p12 l13 l14 =>
 cond ((l13:Int)==(0:Int))
 (T.loads ((a5.add 7).add 1) [.int .u32] <| fun n15 =>
 cond (n15==(0:Int))
 (cond (!b4)
 (T.ret (.bool true))
 (T.loads (a5.add 9) [.int .i64] <| fun n16 =>
 T.ret (.bool (n16==(0:Int)))))
 (T.ret (.bool false)))
 (T.ret (.bool false))))
 (T.ret (.bool false))))
 (T.loads (a5.add 1) [.string] <| fun s6 =>
 cond ((ByteArray.toList s6)==[])
 (cond (!b2)
 (cond (!b3)
 (cond (!b4)
 (T.ret (.bool true))
 (T.loads (a5.add 9) [.int .i64] <| fun n7 =>
 T.ret (.bool (n7==(0:Int)))))
 (T.loads (a5.add 7) [.slice 50] <| fun p7 l8 l9 =>
 cond ((l8:Int)==(0:Int))
 (T.loads ((a5.add 7).add 1) [.int .u32] <| fun n10 =>
 cond (n10==(0:Int))
 (cond (!b4)
 (T.ret (.bool true))
 (T.loads (a5.add 9) [.int .i64] <| fun n11 =>
 T.ret (.bool (n11==(0:Int)))))
 (T.ret (.bool false)))
 (T.ret (.bool false))))
 (T.loads (a5.add 2) [.int .i64,.int .i64,.int .i64,.int .i32,.int .i64] <| fun n7 n8 n9 n10 n11 =>
 T.sem Tryz.prog (Sx.cmpS (BinOp.eql) 52 (Operand.tmp 23) (Operand.tmp 24) (.agg #[vI n7,vI n8,vI n9,.int .i32 n10,vI n11]) (.agg #[vI 0,vI 0,vI 0,.int .i32 0,vI 0])) false [(false,[.bool])] <| fun b12 =>
 cond b12
 (cond (!b3)
 (cond (!b4)
 (T.ret (.bool true))
 (T.loads (a5.add 9) [.int .i64] <| fun n13 =>
 T.ret (.bool (n13==(0:Int)))))
 (T.loads (a5.add 7) [.slice 50] <| fun p13 l14 l15 =>
 cond ((l14:Int)==(0:Int))
 (T.loads ((a5.add 7).add 1) [.int .u32] <| fun n16 =>
 cond (n16==(0:Int))
 (cond (!b4)
 (T.ret (.bool true))
 (T.loads (a5.add 9) [.int .i64] <| fun n17 =>
 T.ret (.bool (n17==(0:Int)))))
 (T.ret (.bool false)))
 (T.ret (.bool false))))
 (T.ret (.bool false))))
 (T.ret (.bool false)))
theorem t_spandrelref8_bare_eq (n0:Int) (s1_0:ByteArray) (n2_0:Int) (n3_0:Int) (n4_0:Int) (n5_0:Int) (n6_0:Int) (pp07:Option Addr) (ll07 cc07:Nat) (n8_0:Int) (n9_0:Int) (b1:Bool) (b2:Bool) (b3:Bool) (b4:Bool):xfun Tryz.prog [] Tryz.f40 [.agg #[vI n0,.string s1_0,vI n2_0,vI n3_0,vI n4_0,.int .i32 n5_0,vI n6_0,.slice pp07 ll07 cc07,.int .u32 n8_0,vI n9_0],.bool b1,.bool b2,.bool b3,.bool b4]=t_spandrelref8_bare n0 s1_0 n2_0 n3_0 n4_0 n5_0 n6_0 pp07 ll07 cc07 n8_0 n9_0 b1 b2 b3 b4:=by kernel_rfl
def t_spandrelref8_power (n0:Int):T :=
 T.loop [(false,[.bool]),(false,[.int .i64])] [.bool false,vI 1] <| fun b1 n2 =>
 cond (decide (n2≤(256:Int)))
 (cond (n0==n2)
 (T.ret (.bool true))
 (T.again 0 [.bool b1,vI (IntKind.wrap .i64 ((2:Int)*n2))]))
 (T.ret (.bool false))
theorem t_spandrelref8_power_eq (n0:Int):xfun Tryz.prog [] Tryz.f45 [vI n0]=t_spandrelref8_power n0:=by kernel_rfl
end Go.Sx
