/- Trees of functions, each checked by the kernel against the code. No condition. -/
import Derived.Test.YtgnhjkofpmchpaaGreatDoorSxF
import Derived.Test.YtgnhjkofpmchpaaGreatDoorProg
import Derived.KernelRfl
set_option linter.unusedVariables false
set_option linter.unusedSimpArgs false
set_option linter.deprecated false
set_option maxRecDepth 100000
namespace Go.Sx
open Go.Proofs
def t_isa_number_n1 (o : Int) (a : Int) (b : Int) (n : Int) (f : Int) : T :=
 T.new [.int .i64 o, .int .i64 a, .int .i64 b, .int .i32 n, .int .i64 f] 52 <| fun a1 =>
 T.loads (a1.add 3) [.int .i32] <| fun n2 =>
 T.ret (.bool (n2 == (0 : Int)))
theorem t_isa_number_n1_eq (o : Int) (a : Int) (b : Int) (n : Int) (f : Int) : xfun Tryz.prog [] Tryz.f94 [.agg #[.int .i64 o, .int .i64 a, .int .i64 b, .int .i32 n, .int .i64 f], .int .i64 (1 : Int)] = t_isa_number_n1 o a b n f := by kernel_rfl
def t_isa_number_n2 (o : Int) (a : Int) (b : Int) (n : Int) (f : Int) : T :=
 T.new [.int .i64 o, .int .i64 a, .int .i64 b, .int .i32 n, .int .i64 f] 52 <| fun a1 =>
 T.loads (a1.add 3) [.int .i32] <| fun n2 =>
 T.ret (.bool (n2 == (0 : Int)))
theorem t_isa_number_n2_eq (o : Int) (a : Int) (b : Int) (n : Int) (f : Int) : xfun Tryz.prog [] Tryz.f94 [.agg #[.int .i64 o, .int .i64 a, .int .i64 b, .int .i32 n, .int .i64 f], .int .i64 (2 : Int)] = t_isa_number_n2 o a b n f := by kernel_rfl
def t_isa_number_n3 (o : Int) (a : Int) (b : Int) (n : Int) (f : Int) : T :=
 T.new [.int .i64 o, .int .i64 a, .int .i64 b, .int .i32 n, .int .i64 f] 52 <| fun a1 =>
 T.loads (a1.add 3) [.int .i32] <| fun n2 =>
 T.ret (.bool (n2 == (0 : Int)))
theorem t_isa_number_n3_eq (o : Int) (a : Int) (b : Int) (n : Int) (f : Int) : xfun Tryz.prog [] Tryz.f94 [.agg #[.int .i64 o, .int .i64 a, .int .i64 b, .int .i32 n, .int .i64 f], .int .i64 (3 : Int)] = t_isa_number_n3 o a b n f := by kernel_rfl
def t_isa_number_n4 (o : Int) (a : Int) (b : Int) (n : Int) (f : Int) : T :=
 T.new [.int .i64 o, .int .i64 a, .int .i64 b, .int .i32 n, .int .i64 f] 52 <| fun a1 =>
 T.loads (a1.add 3) [.int .i32] <| fun n2 =>
 T.ret (.bool (n2 == (0 : Int)))
theorem t_isa_number_n4_eq (o : Int) (a : Int) (b : Int) (n : Int) (f : Int) : xfun Tryz.prog [] Tryz.f94 [.agg #[.int .i64 o, .int .i64 a, .int .i64 b, .int .i32 n, .int .i64 f], .int .i64 (4 : Int)] = t_isa_number_n4 o a b n f := by kernel_rfl
def t_isa_number_n5 (o : Int) (a : Int) (b : Int) (n : Int) (f : Int) : T :=
 T.new [.int .i64 o, .int .i64 a, .int .i64 b, .int .i32 n, .int .i64 f] 52 <| fun a1 =>
 T.loads (a1.add 3) [.int .i32] <| fun n2 =>
 T.ret (.bool (n2 == (0 : Int)))
theorem t_isa_number_n5_eq (o : Int) (a : Int) (b : Int) (n : Int) (f : Int) : xfun Tryz.prog [] Tryz.f94 [.agg #[.int .i64 o, .int .i64 a, .int .i64 b, .int .i32 n, .int .i64 f], .int .i64 (5 : Int)] = t_isa_number_n5 o a b n f := by kernel_rfl
def t_isa_number_n6 (o : Int) (a : Int) (b : Int) (n : Int) (f : Int) : T :=
 T.new [.int .i64 o, .int .i64 a, .int .i64 b, .int .i32 n, .int .i64 f] 52 <| fun a1 =>
 T.loads (a1.add 3) [.int .i32] <| fun n2 =>
 T.ret (.bool (n2 == (0 : Int)))
theorem t_isa_number_n6_eq (o : Int) (a : Int) (b : Int) (n : Int) (f : Int) : xfun Tryz.prog [] Tryz.f94 [.agg #[.int .i64 o, .int .i64 a, .int .i64 b, .int .i32 n, .int .i64 f], .int .i64 (6 : Int)] = t_isa_number_n6 o a b n f := by kernel_rfl
def t_isa_number_n7 (o : Int) (a : Int) (b : Int) (n : Int) (f : Int) : T :=
 T.new [.int .i64 o, .int .i64 a, .int .i64 b, .int .i32 n, .int .i64 f] 52 <| fun a1 =>
 T.ret (.bool true)
theorem t_isa_number_n7_eq (o : Int) (a : Int) (b : Int) (n : Int) (f : Int) : xfun Tryz.prog [] Tryz.f94 [.agg #[.int .i64 o, .int .i64 a, .int .i64 b, .int .i32 n, .int .i64 f], .int .i64 (7 : Int)] = t_isa_number_n7 o a b n f := by kernel_rfl
def t_isa_number_n8 (o : Int) (a : Int) (b : Int) (n : Int) (f : Int) : T :=
 T.new [.int .i64 o, .int .i64 a, .int .i64 b, .int .i32 n, .int .i64 f] 52 <| fun a1 =>
 T.loads (a1.add 3) [.int .i32] <| fun n2 =>
 T.call Tryz.prog 104 [.int .i32 n2, .int .i64 (1 : Int)] false [(false, [.bool])] <| fun b3 =>
 T.ret (.bool b3)
theorem t_isa_number_n8_eq (o : Int) (a : Int) (b : Int) (n : Int) (f : Int) : xfun Tryz.prog [] Tryz.f94 [.agg #[.int .i64 o, .int .i64 a, .int .i64 b, .int .i32 n, .int .i64 f], .int .i64 (8 : Int)] = t_isa_number_n8 o a b n f := by kernel_rfl
def t_isa_number_n9 (o : Int) (a : Int) (b : Int) (n : Int) (f : Int) : T :=
 T.new [.int .i64 o, .int .i64 a, .int .i64 b, .int .i32 n, .int .i64 f] 52 <| fun a1 =>
 T.loads (a1.add 3) [.int .i32] <| fun n2 =>
 cond (decide (n2 ≥ (0 : Int)))
 (T.loads (a1.add 3) [.int .i32] <| fun n3 =>
 T.ret (.bool (decide (n3 ≤ (255 : Int)))))
 (T.ret (.bool false))
theorem t_isa_number_n9_eq (o : Int) (a : Int) (b : Int) (n : Int) (f : Int) : xfun Tryz.prog [] Tryz.f94 [.agg #[.int .i64 o, .int .i64 a, .int .i64 b, .int .i32 n, .int .i64 f], .int .i64 (9 : Int)] = t_isa_number_n9 o a b n f := by kernel_rfl
def t_isa_number_n10 (o : Int) (a : Int) (b : Int) (n : Int) (f : Int) : T :=
 T.new [.int .i64 o, .int .i64 a, .int .i64 b, .int .i32 n, .int .i64 f] 52 <| fun a1 =>
 T.ret (.bool true)
theorem t_isa_number_n10_eq (o : Int) (a : Int) (b : Int) (n : Int) (f : Int) : xfun Tryz.prog [] Tryz.f94 [.agg #[.int .i64 o, .int .i64 a, .int .i64 b, .int .i32 n, .int .i64 f], .int .i64 (10 : Int)] = t_isa_number_n10 o a b n f := by kernel_rfl
def t_isa_number_n11 (o : Int) (a : Int) (b : Int) (n : Int) (f : Int) : T :=
 T.new [.int .i64 o, .int .i64 a, .int .i64 b, .int .i32 n, .int .i64 f] 52 <| fun a1 =>
 T.loads (a1.add 3) [.int .i32] <| fun n2 =>
 cond (decide (n2 ≥ (0 : Int)))
 (T.loads (a1.add 3) [.int .i32] <| fun n3 =>
 T.ret (.bool (decide (n3 ≤ (4095 : Int)))))
 (T.ret (.bool false))
theorem t_isa_number_n11_eq (o : Int) (a : Int) (b : Int) (n : Int) (f : Int) : xfun Tryz.prog [] Tryz.f94 [.agg #[.int .i64 o, .int .i64 a, .int .i64 b, .int .i32 n, .int .i64 f], .int .i64 (11 : Int)] = t_isa_number_n11 o a b n f := by kernel_rfl
def t_isa_number_n12 (o : Int) (a : Int) (b : Int) (n : Int) (f : Int) : T :=
 T.new [.int .i64 o, .int .i64 a, .int .i64 b, .int .i32 n, .int .i64 f] 52 <| fun a1 =>
 T.loads (a1.add 3) [.int .i32] <| fun n2 =>
 T.loads (a1.add 4) [.int .i64] <| fun n3 =>
 T.call Tryz.prog 104 [.int .i32 n2, .int .i64 n3] false [(false, [.bool])] <| fun b4 =>
 T.ret (.bool b4)
theorem t_isa_number_n12_eq (o : Int) (a : Int) (b : Int) (n : Int) (f : Int) : xfun Tryz.prog [] Tryz.f94 [.agg #[.int .i64 o, .int .i64 a, .int .i64 b, .int .i32 n, .int .i64 f], .int .i64 (12 : Int)] = t_isa_number_n12 o a b n f := by kernel_rfl
def t_isa_number_n13 (o : Int) (a : Int) (b : Int) (n : Int) (f : Int) : T :=
 T.new [.int .i64 o, .int .i64 a, .int .i64 b, .int .i32 n, .int .i64 f] 52 <| fun a1 =>
 T.loads (a1.add 3) [.int .i32] <| fun n2 =>
 T.loads (a1.add 4) [.int .i64] <| fun n3 =>
 T.call Tryz.prog 104 [.int .i32 n2, .int .i64 n3] false [(false, [.bool])] <| fun b4 =>
 T.ret (.bool b4)
theorem t_isa_number_n13_eq (o : Int) (a : Int) (b : Int) (n : Int) (f : Int) : xfun Tryz.prog [] Tryz.f94 [.agg #[.int .i64 o, .int .i64 a, .int .i64 b, .int .i32 n, .int .i64 f], .int .i64 (13 : Int)] = t_isa_number_n13 o a b n f := by kernel_rfl
end Go.Sx
