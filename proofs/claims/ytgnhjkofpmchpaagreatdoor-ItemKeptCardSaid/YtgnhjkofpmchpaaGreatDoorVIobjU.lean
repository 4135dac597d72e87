/- Trees of functions, each checked by the kernel against the code. No condition. -/
import Derived.Test.YtgnhjkofpmchpaaGreatDoorVSxF
import Derived.Test.YtgnhjkofpmchpaaGreatDoorProg
import Derived.KernelRfl
set_option linter.unusedVariables false
set_option linter.unusedSimpArgs false
set_option linter.deprecated false
set_option maxRecDepth 100000
namespace Go.Sx
open Go.Proofs
def t_isa_number_n1 (o:Int) (a:Int) (b:Int) (n:Int) (f:Int):T :=
 T.new [vI o,vI a,vI b,.int .i32 n,vI f] 52 <| fun a1 =>
 T.loads (a1.add 3) [.int .i32] <| fun n2 =>
 T.ret (.bool (n2==(0:Int)))
theorem t_isa_number_n1_eq (o:Int) (a:Int) (b:Int) (n:Int) (f:Int):xfun Tryz.prog [] Tryz.f94 [.agg #[vI o,vI a,vI b,.int .i32 n,vI f],vI 1]=t_isa_number_n1 o a b n f:=by kernel_rfl
def t_isa_number_n2 (o:Int) (a:Int) (b:Int) (n:Int) (f:Int):T :=
 T.new [vI o,vI a,vI b,.int .i32 n,vI f] 52 <| fun a1 =>
 T.loads (a1.add 3) [.int .i32] <| fun n2 =>
 T.ret (.bool (n2==(0:Int)))
theorem t_isa_number_n2_eq (o:Int) (a:Int) (b:Int) (n:Int) (f:Int):xfun Tryz.prog [] Tryz.f94 [.agg #[vI o,vI a,vI b,.int .i32 n,vI f],vI 2]=t_isa_number_n2 o a b n f:=by kernel_rfl
def t_isa_number_n3 (o:Int) (a:Int) (b:Int) (n:Int) (f:Int):T :=
 T.new [vI o,vI a,vI b,.int .i32 n,vI f] 52 <| fun a1 =>
 T.loads (a1.add 3) [.int .i32] <| fun n2 =>
 T.ret (.bool (n2==(0:Int)))
theorem t_isa_number_n3_eq (o:Int) (a:Int) (b:Int) (n:Int) (f:Int):xfun Tryz.prog [] Tryz.f94 [.agg #[vI o,vI a,vI b,.int .i32 n,vI f],vI 3]=t_isa_number_n3 o a b n f:=by kernel_rfl
def t_isa_number_n4 (o:Int) (a:Int) (b:Int) (n:Int) (f:Int):T :=
 T.new [vI o,vI a,vI b,.int .i32 n,vI f] 52 <| fun a1 =>
 T.loads (a1.add 3) [.int .i32] <| fun n2 =>
 T.ret (.bool (n2==(0:Int)))
theorem t_isa_number_n4_eq (o:Int) (a:Int) (b:Int) (n:Int) (f:Int):xfun Tryz.prog [] Tryz.f94 [.agg #[vI o,vI a,vI b,.int .i32 n,vI f],vI 4]=t_isa_number_n4 o a b n f:=by kernel_rfl
def t_isa_number_n5 (o:Int) (a:Int) (b:Int) (n:Int) (f:Int):T :=
 T.new [vI o,vI a,vI b,.int .i32 n,vI f] 52 <| fun a1 =>
 T.loads (a1.add 3) [.int .i32] <| fun n2 =>
 T.ret (.bool (n2==(0:Int)))
theorem t_isa_number_n5_eq (o:Int) (a:Int) (b:Int) (n:Int) (f:Int):xfun Tryz.prog [] Tryz.f94 [.agg #[vI o,vI a,vI b,.int .i32 n,vI f],vI 5]=t_isa_number_n5 o a b n f:=by kernel_rfl
def t_isa_number_n6 (o:Int) (a:Int) (b:Int) (n:Int) (f:Int):T :=
 T.new [vI o,vI a,vI b,.int .i32 n,vI f] 52 <| fun a1 =>
 T.loads (a1.add 3) [.int .i32] <| fun n2 =>
 T.ret (.bool (n2==(0:Int)))
theorem t_isa_number_n6_eq (o:Int) (a:Int) (b:Int) (n:Int) (f:Int):xfun Tryz.prog [] Tryz.f94 [.agg #[vI o,vI a,vI b,.int .i32 n,vI f],vI 6]=t_isa_number_n6 o a b n f:=by kernel_rfl
def t_isa_number_n7 (o:Int) (a:Int) (b:Int) (n:Int) (f:Int):T :=
 T.new [vI o,vI a,vI b,.int .i32 n,vI f] 52 <| fun a1 =>
 T.ret (.bool true)
theorem t_isa_number_n7_eq (o:Int) (a:Int) (b:Int) (n:Int) (f:Int):xfun Tryz.prog [] Tryz.f94 [.agg #[vI o,vI a,vI b,.int .i32 n,vI f],vI 7]=t_isa_number_n7 o a b n f:=by kernel_rfl
def t_isa_number_n8 (o:Int) (a:Int) (b:Int) (n:Int) (f:Int):T :=
 T.new [vI o,vI a,vI b,.int .i32 n,vI f] 52 <| fun a1 =>
 T.loads (a1.add 3) [.int .i32] <| fun n2 =>
 T.call Tryz.prog 104 [.int .i32 n2,vI 1] false [(false,[.bool])] <| fun b3 =>
 T.ret (.bool b3)
theorem t_isa_number_n8_eq (o:Int) (a:Int) (b:Int) (n:Int) (f:Int):xfun Tryz.prog [] Tryz.f94 [.agg #[vI o,vI a,vI b,.int .i32 n,vI f],vI 8]=t_isa_number_n8 o a b n f:=by kernel_rfl
def t_isa_number_n9 (o:Int) (a:Int) (b:Int) (n:Int) (f:Int):T :=
 T.new [vI o,vI a,vI b,.int .i32 n,vI f] 52 <| fun a1 =>
 T.loads (a1.add 3) [.int .i32] <| fun n2 =>
 cond (decide (n2≥(0:Int)))
 (T.loads (a1.add 3) [.int .i32] <| fun n3 =>
 T.ret (.bool (decide (n3≤(255:Int)))))
 (T.ret (.bool false))
theorem t_isa_number_n9_eq (o:Int) (a:Int) (b:Int) (n:Int) (f:Int):xfun Tryz.prog [] Tryz.f94 [.agg #[vI o,vI a,vI b,.int .i32 n,vI f],vI 9]=t_isa_number_n9 o a b n f:=by kernel_rfl
def t_isa_number_n10 (o:Int) (a:Int) (b:Int) (n:Int) (f:Int):T :=
 T.new [vI o,vI a,vI b,.int .i32 n,vI f] 52 <| fun a1 =>
 T.ret (.bool true)
theorem t_isa_number_n10_eq (o:Int) (a:Int) (b:Int) (n:Int) (f:Int):xfun Tryz.prog [] Tryz.f94 [.agg #[vI o,vI a,vI b,.int .i32 n,vI f],vI 10]=t_isa_number_n10 o a b n f:=by kernel_rfl
def t_isa_number_n11 (o:Int) (a:Int) (b:Int) (n:Int) (f:Int):T :=
 T.new [vI o,vI a,vI b,.int .i32 n,vI f] 52 <| fun a1 =>
 T.loads (a1.add 3) [.int .i32] <| fun n2 =>
 cond (decide (n2≥(0:Int)))
 (T.loads (a1.add 3) [.int .i32] <| fun n3 =>
 T.ret (.bool (decide (n3≤(4095:Int)))))
 (T.ret (.bool false))
theorem t_isa_number_n11_eq (o:Int) (a:Int) (b:Int) (n:Int) (f:Int):xfun Tryz.prog [] Tryz.f94 [.agg #[vI o,vI a,vI b,.int .i32 n,vI f],vI 11]=t_isa_number_n11 o a b n f:=by kernel_rfl
def t_isa_number_n12 (o:Int) (a:Int) (b:Int) (n:Int) (f:Int):T :=
 T.new [vI o,vI a,vI b,.int .i32 n,vI f] 52 <| fun a1 =>
 T.loads (a1.add 3) [.int .i32] <| fun n2 =>
 T.loads (a1.add 4) [.int .i64] <| fun n3 =>
 T.call Tryz.prog 104 [.int .i32 n2,vI n3] false [(false,[.bool])] <| fun b4 =>
 T.ret (.bool b4)
theorem t_isa_number_n12_eq (o:Int) (a:Int) (b:Int) (n:Int) (f:Int):xfun Tryz.prog [] Tryz.f94 [.agg #[vI o,vI a,vI b,.int .i32 n,vI f],vI 12]=t_isa_number_n12 o a b n f:=by kernel_rfl
def t_isa_number_n13 (o:Int) (a:Int) (b:Int) (n:Int) (f:Int):T :=
 T.new [vI o,vI a,vI b,.int .i32 n,vI f] 52 <| fun a1 =>
 T.loads (a1.add 3) [.int .i32] <| fun n2 =>
 T.loads (a1.add 4) [.int .i64] <| fun n3 =>
 T.call Tryz.prog 104 [.int .i32 n2,vI n3] false [(false,[.bool])] <| fun b4 =>
 T.ret (.bool b4)
theorem t_isa_number_n13_eq (o:Int) (a:Int) (b:Int) (n:Int) (f:Int):xfun Tryz.prog [] Tryz.f94 [.agg #[vI o,vI a,vI b,.int .i32 n,vI f],vI 13]=t_isa_number_n13 o a b n f:=by kernel_rfl
end Go.Sx
