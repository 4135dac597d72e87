/- Trees of functions, each checked by the kernel against the code. No condition. -/
import Derived.Test.YtnjohginlglonaaGreatDoorSxF
import Derived.Test.YtnjohginlglonaaGreatDoorProg
import Derived.KernelRfl
set_option linter.unusedVariables false
set_option linter.unusedSimpArgs false
set_option linter.deprecated false
set_option maxRecDepth 100000
namespace Go.Sx
open Go.Proofs
/-- The tree of 65, at some arguments. -/
def t_isa_registers_r1 (o : Int) (a : Int) (b : Int) (n : Int) (f : Int) : T :=
 T.new [.int .i64 o, .int .i64 a, .int .i64 b, .int .i32 n, .int .i64 f] 100 <| fun (a1 : Addr) =>
 T.loads (a1.add 1) [.int .i64] <| fun (n2 : Int) =>
 cond (n2 == (0 : Int))
  (T.loads (a1.add 2) [.int .i64] <| fun (n3 : Int) =>
  T.ret (.bool (n3 == (0 : Int))))
  (T.ret (.bool false))
theorem t_isa_registers_r1_eq (o : Int) (a : Int) (b : Int) (n : Int) (f : Int) : xfun Tryz.prog [] Tryz.f107 [.agg #[.int .i64 o, .int .i64 a, .int .i64 b, .int .i32 n, .int .i64 f], .int .i64 (1 : Int)] = t_isa_registers_r1 o a b n f := by kernel_rfl

/-- The tree of 65, at some arguments. -/
def t_isa_registers_r2 (o : Int) (a : Int) (b : Int) (n : Int) (f : Int) : T :=
 T.new [.int .i64 o, .int .i64 a, .int .i64 b, .int .i32 n, .int .i64 f] 100 <| fun (a1 : Addr) =>
 T.loads (a1.add 1) [.int .i64] <| fun (n2 : Int) =>
 T.call Tryz.prog 115 [.int .i64 n2, .int .i64 (8 : Int)] false [(false, [.bool])] <| fun (b3 : Bool) =>
 cond b3
  (T.loads (a1.add 2) [.int .i64] <| fun (n4 : Int) =>
  T.ret (.bool (n4 == (0 : Int))))
  (T.ret (.bool false))
theorem t_isa_registers_r2_eq (o : Int) (a : Int) (b : Int) (n : Int) (f : Int) : xfun Tryz.prog [] Tryz.f107 [.agg #[.int .i64 o, .int .i64 a, .int .i64 b, .int .i32 n, .int .i64 f], .int .i64 (2 : Int)] = t_isa_registers_r2 o a b n f := by kernel_rfl

/-- The tree of 65, at some arguments. -/
def t_isa_registers_r3 (o : Int) (a : Int) (b : Int) (n : Int) (f : Int) : T :=
 T.new [.int .i64 o, .int .i64 a, .int .i64 b, .int .i32 n, .int .i64 f] 100 <| fun (a1 : Addr) =>
 T.loads (a1.add 1) [.int .i64] <| fun (n2 : Int) =>
 T.call Tryz.prog 115 [.int .i64 n2, .int .i64 (4 : Int)] false [(false, [.bool])] <| fun (b3 : Bool) =>
 cond b3
  (T.loads (a1.add 2) [.int .i64] <| fun (n4 : Int) =>
  T.ret (.bool (n4 == (0 : Int))))
  (T.ret (.bool false))
theorem t_isa_registers_r3_eq (o : Int) (a : Int) (b : Int) (n : Int) (f : Int) : xfun Tryz.prog [] Tryz.f107 [.agg #[.int .i64 o, .int .i64 a, .int .i64 b, .int .i32 n, .int .i64 f], .int .i64 (3 : Int)] = t_isa_registers_r3 o a b n f := by kernel_rfl

/-- The tree of 65, at some arguments. -/
def t_isa_registers_r4 (o : Int) (a : Int) (b : Int) (n : Int) (f : Int) : T :=
 T.new [.int .i64 o, .int .i64 a, .int .i64 b, .int .i32 n, .int .i64 f] 100 <| fun (a1 : Addr) =>
 T.loads (a1.add 1) [.int .i64] <| fun (n2 : Int) =>
 T.call Tryz.prog 115 [.int .i64 n2, .int .i64 (8 : Int)] false [(false, [.bool])] <| fun (b3 : Bool) =>
 cond b3
  (T.loads (a1.add 2) [.int .i64] <| fun (n4 : Int) =>
  T.call Tryz.prog 115 [.int .i64 n4, .int .i64 (8 : Int)] false [(false, [.bool])] <| fun (b5 : Bool) =>
  T.ret (.bool b5))
  (T.ret (.bool false))
theorem t_isa_registers_r4_eq (o : Int) (a : Int) (b : Int) (n : Int) (f : Int) : xfun Tryz.prog [] Tryz.f107 [.agg #[.int .i64 o, .int .i64 a, .int .i64 b, .int .i32 n, .int .i64 f], .int .i64 (4 : Int)] = t_isa_registers_r4 o a b n f := by kernel_rfl

/-- The tree of 65, at some arguments. -/
def t_isa_registers_r5 (o : Int) (a : Int) (b : Int) (n : Int) (f : Int) : T :=
 T.new [.int .i64 o, .int .i64 a, .int .i64 b, .int .i32 n, .int .i64 f] 100 <| fun (a1 : Addr) =>
 T.loads (a1.add 1) [.int .i64] <| fun (n2 : Int) =>
 T.call Tryz.prog 115 [.int .i64 n2, .int .i64 (4 : Int)] false [(false, [.bool])] <| fun (b3 : Bool) =>
 cond b3
  (T.loads (a1.add 2) [.int .i64] <| fun (n4 : Int) =>
  T.call Tryz.prog 115 [.int .i64 n4, .int .i64 (4 : Int)] false [(false, [.bool])] <| fun (b5 : Bool) =>
  T.ret (.bool b5))
  (T.ret (.bool false))
theorem t_isa_registers_r5_eq (o : Int) (a : Int) (b : Int) (n : Int) (f : Int) : xfun Tryz.prog [] Tryz.f107 [.agg #[.int .i64 o, .int .i64 a, .int .i64 b, .int .i32 n, .int .i64 f], .int .i64 (5 : Int)] = t_isa_registers_r5 o a b n f := by kernel_rfl

/-- The tree of 65, at some arguments. -/
def t_isa_registers_r6 (o : Int) (a : Int) (b : Int) (n : Int) (f : Int) : T :=
 T.new [.int .i64 o, .int .i64 a, .int .i64 b, .int .i32 n, .int .i64 f] 100 <| fun (a1 : Addr) =>
 T.loads (a1.add 1) [.int .i64] <| fun (n2 : Int) =>
 T.call Tryz.prog 115 [.int .i64 n2, .int .i64 (8 : Int)] false [(false, [.bool])] <| fun (b3 : Bool) =>
 cond b3
  (T.loads (a1.add 2) [.int .i64] <| fun (n4 : Int) =>
  T.call Tryz.prog 115 [.int .i64 n4, .int .i64 (4 : Int)] false [(false, [.bool])] <| fun (b5 : Bool) =>
  T.ret (.bool b5))
  (T.ret (.bool false))
theorem t_isa_registers_r6_eq (o : Int) (a : Int) (b : Int) (n : Int) (f : Int) : xfun Tryz.prog [] Tryz.f107 [.agg #[.int .i64 o, .int .i64 a, .int .i64 b, .int .i32 n, .int .i64 f], .int .i64 (6 : Int)] = t_isa_registers_r6 o a b n f := by kernel_rfl

/-- The tree of 65, at some arguments. -/
def t_isa_registers_r7 (o : Int) (a : Int) (b : Int) (n : Int) (f : Int) : T :=
 T.new [.int .i64 o, .int .i64 a, .int .i64 b, .int .i32 n, .int .i64 f] 100 <| fun (a1 : Addr) =>
 T.loads (a1.add 1) [.int .i64] <| fun (n2 : Int) =>
 T.call Tryz.prog 115 [.int .i64 n2, .int .i64 (4 : Int)] false [(false, [.bool])] <| fun (b3 : Bool) =>
 cond b3
  (T.loads (a1.add 2) [.int .i64] <| fun (n4 : Int) =>
  T.call Tryz.prog 115 [.int .i64 n4, .int .i64 (8 : Int)] false [(false, [.bool])] <| fun (b5 : Bool) =>
  cond b5
   (T.loads (a1.add 3) [.int .i32] <| fun (n6 : Int) =>
   cond (decide (n6 ≥ (0 : Int)))
    (T.loads (a1.add 3) [.int .i32] <| fun (n7 : Int) =>
    T.ret (.bool (decide (n7 < (8 : Int)))))
    (T.ret (.bool false)))
   (T.ret (.bool false)))
  (T.ret (.bool false))
theorem t_isa_registers_r7_eq (o : Int) (a : Int) (b : Int) (n : Int) (f : Int) : xfun Tryz.prog [] Tryz.f107 [.agg #[.int .i64 o, .int .i64 a, .int .i64 b, .int .i32 n, .int .i64 f], .int .i64 (7 : Int)] = t_isa_registers_r7 o a b n f := by kernel_rfl

/-- The tree of 65, at some arguments. -/
def t_isa_registers_r8 (o : Int) (a : Int) (b : Int) (n : Int) (f : Int) : T :=
 T.new [.int .i64 o, .int .i64 a, .int .i64 b, .int .i32 n, .int .i64 f] 100 <| fun (a1 : Addr) =>
 T.loads (a1.add 1) [.int .i64] <| fun (n2 : Int) =>
 T.call Tryz.prog 115 [.int .i64 n2, .int .i64 (8 : Int)] false [(false, [.bool])] <| fun (b3 : Bool) =>
 cond b3
  (T.loads (a1.add 2) [.int .i64] <| fun (n4 : Int) =>
  T.ret (.bool (n4 == (0 : Int))))
  (T.ret (.bool false))
theorem t_isa_registers_r8_eq (o : Int) (a : Int) (b : Int) (n : Int) (f : Int) : xfun Tryz.prog [] Tryz.f107 [.agg #[.int .i64 o, .int .i64 a, .int .i64 b, .int .i32 n, .int .i64 f], .int .i64 (8 : Int)] = t_isa_registers_r8 o a b n f := by kernel_rfl

/-- The tree of 65, at some arguments. -/
def t_isa_registers_r9 (o : Int) (a : Int) (b : Int) (n : Int) (f : Int) : T :=
 T.new [.int .i64 o, .int .i64 a, .int .i64 b, .int .i32 n, .int .i64 f] 100 <| fun (a1 : Addr) =>
 T.loads (a1.add 1) [.int .i64] <| fun (n2 : Int) =>
 cond (n2 == (0 : Int))
  (T.loads (a1.add 2) [.int .i64] <| fun (n3 : Int) =>
  T.ret (.bool (n3 == (0 : Int))))
  (T.ret (.bool false))
theorem t_isa_registers_r9_eq (o : Int) (a : Int) (b : Int) (n : Int) (f : Int) : xfun Tryz.prog [] Tryz.f107 [.agg #[.int .i64 o, .int .i64 a, .int .i64 b, .int .i32 n, .int .i64 f], .int .i64 (9 : Int)] = t_isa_registers_r9 o a b n f := by kernel_rfl

/-- The tree of 65, at some arguments. -/
def t_isa_registers_r10 (o : Int) (a : Int) (b : Int) (n : Int) (f : Int) : T :=
 T.new [.int .i64 o, .int .i64 a, .int .i64 b, .int .i32 n, .int .i64 f] 100 <| fun (a1 : Addr) =>
 T.loads (a1.add 1) [.int .i64] <| fun (n2 : Int) =>
 T.call Tryz.prog 115 [.int .i64 n2, .int .i64 (8 : Int)] false [(false, [.bool])] <| fun (b3 : Bool) =>
 cond b3
  (T.loads (a1.add 2) [.int .i64] <| fun (n4 : Int) =>
  T.ret (.bool (n4 == (0 : Int))))
  (T.ret (.bool false))
theorem t_isa_registers_r10_eq (o : Int) (a : Int) (b : Int) (n : Int) (f : Int) : xfun Tryz.prog [] Tryz.f107 [.agg #[.int .i64 o, .int .i64 a, .int .i64 b, .int .i32 n, .int .i64 f], .int .i64 (10 : Int)] = t_isa_registers_r10 o a b n f := by kernel_rfl

/-- The tree of 65, at some arguments. -/
def t_isa_registers_r11 (o : Int) (a : Int) (b : Int) (n : Int) (f : Int) : T :=
 T.new [.int .i64 o, .int .i64 a, .int .i64 b, .int .i32 n, .int .i64 f] 100 <| fun (a1 : Addr) =>
 T.loads (a1.add 1) [.int .i64] <| fun (n2 : Int) =>
 T.call Tryz.prog 115 [.int .i64 n2, .int .i64 (8 : Int)] false [(false, [.bool])] <| fun (b3 : Bool) =>
 cond b3
  (T.loads (a1.add 2) [.int .i64] <| fun (n4 : Int) =>
  T.ret (.bool (n4 == (0 : Int))))
  (T.ret (.bool false))
theorem t_isa_registers_r11_eq (o : Int) (a : Int) (b : Int) (n : Int) (f : Int) : xfun Tryz.prog [] Tryz.f107 [.agg #[.int .i64 o, .int .i64 a, .int .i64 b, .int .i32 n, .int .i64 f], .int .i64 (11 : Int)] = t_isa_registers_r11 o a b n f := by kernel_rfl

/-- The tree of 65, at some arguments. -/
def t_isa_registers_r12 (o : Int) (a : Int) (b : Int) (n : Int) (f : Int) : T :=
 T.new [.int .i64 o, .int .i64 a, .int .i64 b, .int .i32 n, .int .i64 f] 100 <| fun (a1 : Addr) =>
 T.loads (a1.add 1) [.int .i64] <| fun (n2 : Int) =>
 cond (n2 == (0 : Int))
  (T.loads (a1.add 2) [.int .i64] <| fun (n3 : Int) =>
  T.ret (.bool (n3 == (0 : Int))))
  (T.ret (.bool false))
theorem t_isa_registers_r12_eq (o : Int) (a : Int) (b : Int) (n : Int) (f : Int) : xfun Tryz.prog [] Tryz.f107 [.agg #[.int .i64 o, .int .i64 a, .int .i64 b, .int .i32 n, .int .i64 f], .int .i64 (12 : Int)] = t_isa_registers_r12 o a b n f := by kernel_rfl

/-- The tree of 65, at some arguments. -/
def t_isa_registers_r13 (o : Int) (a : Int) (b : Int) (n : Int) (f : Int) : T :=
 T.new [.int .i64 o, .int .i64 a, .int .i64 b, .int .i32 n, .int .i64 f] 100 <| fun (a1 : Addr) =>
 T.loads (a1.add 1) [.int .i64] <| fun (n2 : Int) =>
 T.call Tryz.prog 115 [.int .i64 n2, .int .i64 (8 : Int)] false [(false, [.bool])] <| fun (b3 : Bool) =>
 cond b3
  (T.loads (a1.add 2) [.int .i64] <| fun (n4 : Int) =>
  T.ret (.bool (n4 == (0 : Int))))
  (T.ret (.bool false))
theorem t_isa_registers_r13_eq (o : Int) (a : Int) (b : Int) (n : Int) (f : Int) : xfun Tryz.prog [] Tryz.f107 [.agg #[.int .i64 o, .int .i64 a, .int .i64 b, .int .i32 n, .int .i64 f], .int .i64 (13 : Int)] = t_isa_registers_r13 o a b n f := by kernel_rfl

/-- The tree of 66, at some arguments. -/
def t_isa_number_n1 (o : Int) (a : Int) (b : Int) (n : Int) (f : Int) : T :=
 T.new [.int .i64 o, .int .i64 a, .int .i64 b, .int .i32 n, .int .i64 f] 100 <| fun (a1 : Addr) =>
 T.loads (a1.add 3) [.int .i32] <| fun (n2 : Int) =>
 T.ret (.bool (n2 == (0 : Int)))
theorem t_isa_number_n1_eq (o : Int) (a : Int) (b : Int) (n : Int) (f : Int) : xfun Tryz.prog [] Tryz.f108 [.agg #[.int .i64 o, .int .i64 a, .int .i64 b, .int .i32 n, .int .i64 f], .int .i64 (1 : Int)] = t_isa_number_n1 o a b n f := by kernel_rfl

/-- The tree of 66, at some arguments. -/
def t_isa_number_n2 (o : Int) (a : Int) (b : Int) (n : Int) (f : Int) : T :=
 T.new [.int .i64 o, .int .i64 a, .int .i64 b, .int .i32 n, .int .i64 f] 100 <| fun (a1 : Addr) =>
 T.loads (a1.add 3) [.int .i32] <| fun (n2 : Int) =>
 T.ret (.bool (n2 == (0 : Int)))
theorem t_isa_number_n2_eq (o : Int) (a : Int) (b : Int) (n : Int) (f : Int) : xfun Tryz.prog [] Tryz.f108 [.agg #[.int .i64 o, .int .i64 a, .int .i64 b, .int .i32 n, .int .i64 f], .int .i64 (2 : Int)] = t_isa_number_n2 o a b n f := by kernel_rfl

/-- The tree of 66, at some arguments. -/
def t_isa_number_n3 (o : Int) (a : Int) (b : Int) (n : Int) (f : Int) : T :=
 T.new [.int .i64 o, .int .i64 a, .int .i64 b, .int .i32 n, .int .i64 f] 100 <| fun (a1 : Addr) =>
 T.loads (a1.add 3) [.int .i32] <| fun (n2 : Int) =>
 T.ret (.bool (n2 == (0 : Int)))
theorem t_isa_number_n3_eq (o : Int) (a : Int) (b : Int) (n : Int) (f : Int) : xfun Tryz.prog [] Tryz.f108 [.agg #[.int .i64 o, .int .i64 a, .int .i64 b, .int .i32 n, .int .i64 f], .int .i64 (3 : Int)] = t_isa_number_n3 o a b n f := by kernel_rfl

/-- The tree of 66, at some arguments. -/
def t_isa_number_n4 (o : Int) (a : Int) (b : Int) (n : Int) (f : Int) : T :=
 T.new [.int .i64 o, .int .i64 a, .int .i64 b, .int .i32 n, .int .i64 f] 100 <| fun (a1 : Addr) =>
 T.loads (a1.add 3) [.int .i32] <| fun (n2 : Int) =>
 T.ret (.bool (n2 == (0 : Int)))
theorem t_isa_number_n4_eq (o : Int) (a : Int) (b : Int) (n : Int) (f : Int) : xfun Tryz.prog [] Tryz.f108 [.agg #[.int .i64 o, .int .i64 a, .int .i64 b, .int .i32 n, .int .i64 f], .int .i64 (4 : Int)] = t_isa_number_n4 o a b n f := by kernel_rfl

/-- The tree of 66, at some arguments. -/
def t_isa_number_n5 (o : Int) (a : Int) (b : Int) (n : Int) (f : Int) : T :=
 T.new [.int .i64 o, .int .i64 a, .int .i64 b, .int .i32 n, .int .i64 f] 100 <| fun (a1 : Addr) =>
 T.loads (a1.add 3) [.int .i32] <| fun (n2 : Int) =>
 T.ret (.bool (n2 == (0 : Int)))
theorem t_isa_number_n5_eq (o : Int) (a : Int) (b : Int) (n : Int) (f : Int) : xfun Tryz.prog [] Tryz.f108 [.agg #[.int .i64 o, .int .i64 a, .int .i64 b, .int .i32 n, .int .i64 f], .int .i64 (5 : Int)] = t_isa_number_n5 o a b n f := by kernel_rfl

/-- The tree of 66, at some arguments. -/
def t_isa_number_n6 (o : Int) (a : Int) (b : Int) (n : Int) (f : Int) : T :=
 T.new [.int .i64 o, .int .i64 a, .int .i64 b, .int .i32 n, .int .i64 f] 100 <| fun (a1 : Addr) =>
 T.loads (a1.add 3) [.int .i32] <| fun (n2 : Int) =>
 T.ret (.bool (n2 == (0 : Int)))
theorem t_isa_number_n6_eq (o : Int) (a : Int) (b : Int) (n : Int) (f : Int) : xfun Tryz.prog [] Tryz.f108 [.agg #[.int .i64 o, .int .i64 a, .int .i64 b, .int .i32 n, .int .i64 f], .int .i64 (6 : Int)] = t_isa_number_n6 o a b n f := by kernel_rfl

/-- The tree of 66, at some arguments. -/
def t_isa_number_n7 (o : Int) (a : Int) (b : Int) (n : Int) (f : Int) : T :=
 T.new [.int .i64 o, .int .i64 a, .int .i64 b, .int .i32 n, .int .i64 f] 100 <| fun (a1 : Addr) =>
 T.ret (.bool true)
theorem t_isa_number_n7_eq (o : Int) (a : Int) (b : Int) (n : Int) (f : Int) : xfun Tryz.prog [] Tryz.f108 [.agg #[.int .i64 o, .int .i64 a, .int .i64 b, .int .i32 n, .int .i64 f], .int .i64 (7 : Int)] = t_isa_number_n7 o a b n f := by kernel_rfl

/-- The tree of 66, at some arguments. -/
def t_isa_number_n8 (o : Int) (a : Int) (b : Int) (n : Int) (f : Int) : T :=
 T.new [.int .i64 o, .int .i64 a, .int .i64 b, .int .i32 n, .int .i64 f] 100 <| fun (a1 : Addr) =>
 T.loads (a1.add 3) [.int .i32] <| fun (n2 : Int) =>
 T.call Tryz.prog 116 [.int .i32 n2, .int .i64 (1 : Int)] false [(false, [.bool])] <| fun (b3 : Bool) =>
 T.ret (.bool b3)
theorem t_isa_number_n8_eq (o : Int) (a : Int) (b : Int) (n : Int) (f : Int) : xfun Tryz.prog [] Tryz.f108 [.agg #[.int .i64 o, .int .i64 a, .int .i64 b, .int .i32 n, .int .i64 f], .int .i64 (8 : Int)] = t_isa_number_n8 o a b n f := by kernel_rfl

/-- The tree of 66, at some arguments. -/
def t_isa_number_n9 (o : Int) (a : Int) (b : Int) (n : Int) (f : Int) : T :=
 T.new [.int .i64 o, .int .i64 a, .int .i64 b, .int .i32 n, .int .i64 f] 100 <| fun (a1 : Addr) =>
 T.loads (a1.add 3) [.int .i32] <| fun (n2 : Int) =>
 cond (decide (n2 ≥ (0 : Int)))
  (T.loads (a1.add 3) [.int .i32] <| fun (n3 : Int) =>
  T.ret (.bool (decide (n3 ≤ (255 : Int)))))
  (T.ret (.bool false))
theorem t_isa_number_n9_eq (o : Int) (a : Int) (b : Int) (n : Int) (f : Int) : xfun Tryz.prog [] Tryz.f108 [.agg #[.int .i64 o, .int .i64 a, .int .i64 b, .int .i32 n, .int .i64 f], .int .i64 (9 : Int)] = t_isa_number_n9 o a b n f := by kernel_rfl

/-- The tree of 66, at some arguments. -/
def t_isa_number_n10 (o : Int) (a : Int) (b : Int) (n : Int) (f : Int) : T :=
 T.new [.int .i64 o, .int .i64 a, .int .i64 b, .int .i32 n, .int .i64 f] 100 <| fun (a1 : Addr) =>
 T.ret (.bool true)
theorem t_isa_number_n10_eq (o : Int) (a : Int) (b : Int) (n : Int) (f : Int) : xfun Tryz.prog [] Tryz.f108 [.agg #[.int .i64 o, .int .i64 a, .int .i64 b, .int .i32 n, .int .i64 f], .int .i64 (10 : Int)] = t_isa_number_n10 o a b n f := by kernel_rfl

/-- The tree of 66, at some arguments. -/
def t_isa_number_n11 (o : Int) (a : Int) (b : Int) (n : Int) (f : Int) : T :=
 T.new [.int .i64 o, .int .i64 a, .int .i64 b, .int .i32 n, .int .i64 f] 100 <| fun (a1 : Addr) =>
 T.loads (a1.add 3) [.int .i32] <| fun (n2 : Int) =>
 cond (decide (n2 ≥ (0 : Int)))
  (T.loads (a1.add 3) [.int .i32] <| fun (n3 : Int) =>
  T.ret (.bool (decide (n3 ≤ (4095 : Int)))))
  (T.ret (.bool false))
theorem t_isa_number_n11_eq (o : Int) (a : Int) (b : Int) (n : Int) (f : Int) : xfun Tryz.prog [] Tryz.f108 [.agg #[.int .i64 o, .int .i64 a, .int .i64 b, .int .i32 n, .int .i64 f], .int .i64 (11 : Int)] = t_isa_number_n11 o a b n f := by kernel_rfl

/-- The tree of 66, at some arguments. -/
def t_isa_number_n12 (o : Int) (a : Int) (b : Int) (n : Int) (f : Int) : T :=
 T.new [.int .i64 o, .int .i64 a, .int .i64 b, .int .i32 n, .int .i64 f] 100 <| fun (a1 : Addr) =>
 T.loads (a1.add 3) [.int .i32] <| fun (n2 : Int) =>
 T.loads (a1.add 4) [.int .i64] <| fun (n3 : Int) =>
 T.call Tryz.prog 116 [.int .i32 n2, .int .i64 n3] false [(false, [.bool])] <| fun (b4 : Bool) =>
 T.ret (.bool b4)
theorem t_isa_number_n12_eq (o : Int) (a : Int) (b : Int) (n : Int) (f : Int) : xfun Tryz.prog [] Tryz.f108 [.agg #[.int .i64 o, .int .i64 a, .int .i64 b, .int .i32 n, .int .i64 f], .int .i64 (12 : Int)] = t_isa_number_n12 o a b n f := by kernel_rfl

/-- The tree of 66, at some arguments. -/
def t_isa_number_n13 (o : Int) (a : Int) (b : Int) (n : Int) (f : Int) : T :=
 T.new [.int .i64 o, .int .i64 a, .int .i64 b, .int .i32 n, .int .i64 f] 100 <| fun (a1 : Addr) =>
 T.loads (a1.add 3) [.int .i32] <| fun (n2 : Int) =>
 T.loads (a1.add 4) [.int .i64] <| fun (n3 : Int) =>
 T.call Tryz.prog 116 [.int .i32 n2, .int .i64 n3] false [(false, [.bool])] <| fun (b4 : Bool) =>
 T.ret (.bool b4)
theorem t_isa_number_n13_eq (o : Int) (a : Int) (b : Int) (n : Int) (f : Int) : xfun Tryz.prog [] Tryz.f108 [.agg #[.int .i64 o, .int .i64 a, .int .i64 b, .int .i32 n, .int .i64 f], .int .i64 (13 : Int)] = t_isa_number_n13 o a b n f := by kernel_rfl

/-- The tree of 27, at some arguments. -/
def t_item_Right_c0 (k : Int) (s : ByteArray) (o : Int) (a : Int) (b : Int) (n : Int) (f : Int) (p : Option Addr) (l : Nat) (c : Nat) (m : Int) (q : Int) : T :=
 T.new [.int .i64 k, .string s, .int .i64 o, .int .i64 a, .int .i64 b, .int .i32 n, .int .i64 f, .slice p l c, .int .u32 m, .int .i64 q] 102 <| fun (a1 : Addr) =>
 T.loads a1 [.int .i64] <| fun (n2 : Int) =>
 T.new [.int .i64 (0 : Int), .string ⟨#[]⟩, .int .i64 (0 : Int), .int .i64 (0 : Int), .int .i64 (0 : Int), .int .i32 (0 : Int), .int .i64 (0 : Int), .slice none 0 0, .int .u32 (0 : Int), .int .i64 (0 : Int)] 102 <| fun (a3 : Addr) =>
 T.stores a3 [.int .i64 n2, .string ⟨#[]⟩, .int .i64 (0 : Int), .int .i64 (0 : Int), .int .i64 (0 : Int), .int .i32 (0 : Int), .int .i64 (0 : Int), .slice none 0 0, .int .u32 (0 : Int), .int .i64 (0 : Int)] <|
 T.loads a1 [.int .i64] <| fun (n4 : Int) =>
 cond (n4 == (1 : Int))
  (T.loads (a1.add 1) [.string] <| fun (s5 : ByteArray) =>
  T.stores (a3.add 1) [.string s5] <|
  T.loads (a1.add 1) [.string] <| fun (s6 : ByteArray) =>
  T.call Tryz.prog 69 [.string s6] false [(false, [.bool])] <| fun (b7 : Bool) =>
  cond (!b7)
   (T.ret (.int .i64 (31 : Int)))
   (T.loads (a1.add 1) [.string] <| fun (s8 : ByteArray) =>
   T.loads (a3.add 1) [.string] <| fun (s9 : ByteArray) =>
   cond (!((ByteArray.toList s8) == (ByteArray.toList s9)))
    (T.ret (.int .i64 (31 : Int)))
    (T.loads (a1.add 2) [.int .i64, .int .i64, .int .i64, .int .i32, .int .i64] <| fun (n10 : Int) (n11 : Int) (n12 : Int) (n13 : Int) (n14 : Int) =>
    T.loads (a3.add 2) [.int .i64, .int .i64, .int .i64, .int .i32, .int .i64] <| fun (n15 : Int) (n16 : Int) (n17 : Int) (n18 : Int) (n19 : Int) =>
    T.sem Tryz.prog (Sx.cmpS (BinOp.neq) 100 (Operand.tmp 109) (Operand.tmp 111) (.agg #[.int .i64 n10, .int .i64 n11, .int .i64 n12, .int .i32 n13, .int .i64 n14]) (.agg #[.int .i64 n15, .int .i64 n16, .int .i64 n17, .int .i32 n18, .int .i64 n19])) false [(false, [.bool])] <| fun (b20 : Bool) =>
    cond b20
     (T.ret (.int .i64 (31 : Int)))
     (T.loads (a1.add 9) [.int .i64] <| fun (n21 : Int) =>
     T.loads (a3.add 9) [.int .i64] <| fun (n22 : Int) =>
     cond (n21 != n22)
      (T.ret (.int .i64 (31 : Int)))
      (T.loads (a1.add 7) [.slice 104, .int .u32] <| fun (p23 : Option Addr) (l24 : Nat) (l25 : Nat) (n26 : Int) =>
      T.loads (a3.add 7) [.slice 104, .int .u32] <| fun (p27 : Option Addr) (l28 : Nat) (l29 : Nat) (n30 : Int) =>
      T.call Tryz.prog 88 [.agg #[.slice p23 l24 l25, .int .u32 n26], .agg #[.slice p27 l28 l29, .int .u32 n30]] false [(false, [.bool])] <| fun (b31 : Bool) =>
      cond (!b31)
       (T.ret (.int .i64 (31 : Int)))
       (T.ret (.int .i64 (0 : Int))))))))
  (cond (n4 == (2 : Int))
   (T.loads (a1.add 2) [.int .i64, .int .i64, .int .i64, .int .i32, .int .i64] <| fun (n5 : Int) (n6 : Int) (n7 : Int) (n8 : Int) (n9 : Int) =>
   T.loads (a1.add 7) [.slice 104, .int .u32] <| fun (p10 : Option Addr) (l11 : Nat) (l12 : Nat) (n13 : Int) =>
   T.stores (a3.add 2) [.int .i64 n5, .int .i64 n6, .int .i64 n7, .int .i32 n8, .int .i64 n9] <|
   T.stable [((a1.add 7), [.slice p10 l11 l12, .int .u32 n13])] <|
   T.stores (a3.add 7) [.slice p10 l11 l12, .int .u32 n13] <|
   T.loads a1 [.int .i64, .string, .int .i64, .int .i64, .int .i64, .int .i32, .int .i64, .slice 104, .int .u32, .int .i64] <| fun (n14 : Int) (s15 : ByteArray) (n16 : Int) (n17 : Int) (n18 : Int) (n19 : Int) (n20 : Int) (p21 : Option Addr) (l22 : Nat) (l23 : Nat) (n24 : Int) (n25 : Int) =>
   T.call Tryz.prog 86 [.agg #[.int .i64 n14, .string s15, .int .i64 n16, .int .i64 n17, .int .i64 n18, .int .i32 n19, .int .i64 n20, .slice p21 l22 l23, .int .u32 n24, .int .i64 n25]] false [(false, [.bool])] <| fun (b26 : Bool) =>
   cond (!b26)
    (T.ret (.int .i64 (31 : Int)))
    (T.loads (a1.add 1) [.string] <| fun (s27 : ByteArray) =>
    T.loads (a3.add 1) [.string] <| fun (s28 : ByteArray) =>
    cond (!((ByteArray.toList s27) == (ByteArray.toList s28)))
     (T.ret (.int .i64 (31 : Int)))
     (T.loads (a1.add 2) [.int .i64, .int .i64, .int .i64, .int .i32, .int .i64] <| fun (n29 : Int) (n30 : Int) (n31 : Int) (n32 : Int) (n33 : Int) =>
     T.loads (a3.add 2) [.int .i64, .int .i64, .int .i64, .int .i32, .int .i64] <| fun (n34 : Int) (n35 : Int) (n36 : Int) (n37 : Int) (n38 : Int) =>
     T.sem Tryz.prog (Sx.cmpS (BinOp.neq) 100 (Operand.tmp 109) (Operand.tmp 111) (.agg #[.int .i64 n29, .int .i64 n30, .int .i64 n31, .int .i32 n32, .int .i64 n33]) (.agg #[.int .i64 n34, .int .i64 n35, .int .i64 n36, .int .i32 n37, .int .i64 n38])) false [(false, [.bool])] <| fun (b39 : Bool) =>
     cond b39
      (T.ret (.int .i64 (31 : Int)))
      (T.loads (a1.add 9) [.int .i64] <| fun (n40 : Int) =>
      T.loads (a3.add 9) [.int .i64] <| fun (n41 : Int) =>
      cond (n40 != n41)
       (T.ret (.int .i64 (31 : Int)))
       (T.loads (a1.add 7) [.slice 104, .int .u32] <| fun (p42 : Option Addr) (l43 : Nat) (l44 : Nat) (n45 : Int) =>
       T.loads (a3.add 7) [.slice 104, .int .u32] <| fun (p46 : Option Addr) (l47 : Nat) (l48 : Nat) (n49 : Int) =>
       T.call Tryz.prog 88 [.agg #[.slice p42 l43 l44, .int .u32 n45], .agg #[.slice p46 l47 l48, .int .u32 n49]] false [(false, [.bool])] <| fun (b50 : Bool) =>
       cond (!b50)
        (T.ret (.int .i64 (31 : Int)))
        (T.ret (.int .i64 (0 : Int))))))))
   (cond (n4 == (3 : Int))
    (T.loads (a1.add 9) [.int .i64] <| fun (n5 : Int) =>
    T.stores (a3.add 9) [.int .i64 n5] <|
    T.loads (a1.add 9) [.int .i64] <| fun (n6 : Int) =>
    T.call Tryz.prog 87 [.int .i64 n6] false [(false, [.bool])] <| fun (b7 : Bool) =>
    cond (!b7)
     (T.ret (.int .i64 (31 : Int)))
     (T.loads (a1.add 1) [.string] <| fun (s8 : ByteArray) =>
     T.loads (a3.add 1) [.string] <| fun (s9 : ByteArray) =>
     cond (!((ByteArray.toList s8) == (ByteArray.toList s9)))
      (T.ret (.int .i64 (31 : Int)))
      (T.loads (a1.add 2) [.int .i64, .int .i64, .int .i64, .int .i32, .int .i64] <| fun (n10 : Int) (n11 : Int) (n12 : Int) (n13 : Int) (n14 : Int) =>
      T.loads (a3.add 2) [.int .i64, .int .i64, .int .i64, .int .i32, .int .i64] <| fun (n15 : Int) (n16 : Int) (n17 : Int) (n18 : Int) (n19 : Int) =>
      T.sem Tryz.prog (Sx.cmpS (BinOp.neq) 100 (Operand.tmp 109) (Operand.tmp 111) (.agg #[.int .i64 n10, .int .i64 n11, .int .i64 n12, .int .i32 n13, .int .i64 n14]) (.agg #[.int .i64 n15, .int .i64 n16, .int .i64 n17, .int .i32 n18, .int .i64 n19])) false [(false, [.bool])] <| fun (b20 : Bool) =>
      cond b20
       (T.ret (.int .i64 (31 : Int)))
       (T.loads (a1.add 9) [.int .i64] <| fun (n21 : Int) =>
       T.loads (a3.add 9) [.int .i64] <| fun (n22 : Int) =>
       cond (n21 != n22)
        (T.ret (.int .i64 (31 : Int)))
        (T.loads (a1.add 7) [.slice 104, .int .u32] <| fun (p23 : Option Addr) (l24 : Nat) (l25 : Nat) (n26 : Int) =>
        T.loads (a3.add 7) [.slice 104, .int .u32] <| fun (p27 : Option Addr) (l28 : Nat) (l29 : Nat) (n30 : Int) =>
        T.call Tryz.prog 88 [.agg #[.slice p23 l24 l25, .int .u32 n26], .agg #[.slice p27 l28 l29, .int .u32 n30]] false [(false, [.bool])] <| fun (b31 : Bool) =>
        cond (!b31)
         (T.ret (.int .i64 (31 : Int)))
         (T.ret (.int .i64 (0 : Int))))))))
    (cond (n4 == (4 : Int))
     (T.loads (a1.add 1) [.string] <| fun (s5 : ByteArray) =>
     T.loads (a3.add 1) [.string] <| fun (s6 : ByteArray) =>
     cond (!((ByteArray.toList s5) == (ByteArray.toList s6)))
      (T.ret (.int .i64 (31 : Int)))
      (T.loads (a1.add 2) [.int .i64, .int .i64, .int .i64, .int .i32, .int .i64] <| fun (n7 : Int) (n8 : Int) (n9 : Int) (n10 : Int) (n11 : Int) =>
      T.loads (a3.add 2) [.int .i64, .int .i64, .int .i64, .int .i32, .int .i64] <| fun (n12 : Int) (n13 : Int) (n14 : Int) (n15 : Int) (n16 : Int) =>
      T.sem Tryz.prog (Sx.cmpS (BinOp.neq) 100 (Operand.tmp 109) (Operand.tmp 111) (.agg #[.int .i64 n7, .int .i64 n8, .int .i64 n9, .int .i32 n10, .int .i64 n11]) (.agg #[.int .i64 n12, .int .i64 n13, .int .i64 n14, .int .i32 n15, .int .i64 n16])) false [(false, [.bool])] <| fun (b17 : Bool) =>
      cond b17
       (T.ret (.int .i64 (31 : Int)))
       (T.loads (a1.add 9) [.int .i64] <| fun (n18 : Int) =>
       T.loads (a3.add 9) [.int .i64] <| fun (n19 : Int) =>
       cond (n18 != n19)
        (T.ret (.int .i64 (31 : Int)))
        (T.loads (a1.add 7) [.slice 104, .int .u32] <| fun (p20 : Option Addr) (l21 : Nat) (l22 : Nat) (n23 : Int) =>
        T.loads (a3.add 7) [.slice 104, .int .u32] <| fun (p24 : Option Addr) (l25 : Nat) (l26 : Nat) (n27 : Int) =>
        T.call Tryz.prog 88 [.agg #[.slice p20 l21 l22, .int .u32 n23], .agg #[.slice p24 l25 l26, .int .u32 n27]] false [(false, [.bool])] <| fun (b28 : Bool) =>
        cond (!b28)
         (T.ret (.int .i64 (31 : Int)))
         (T.ret (.int .i64 (0 : Int)))))))
     (cond (n4 == (5 : Int))
      (T.loads (a1.add 9) [.int .i64] <| fun (n5 : Int) =>
      T.stores (a3.add 9) [.int .i64 n5] <|
      T.ret (.int .i64 (31 : Int)))
      (cond (n4 == (6 : Int))
       (T.loads (a1.add 7) [.slice 104, .int .u32] <| fun (p5 : Option Addr) (l6 : Nat) (l7 : Nat) (n8 : Int) =>
       T.stores (a3.add 7) [.slice p5 l6 l7, .int .u32 n8] <|
       T.ret (.int .i64 (31 : Int)))
       (cond (n4 == (7 : Int))
        (T.loads (a1.add 9) [.int .i64] <| fun (n5 : Int) =>
        T.stores (a3.add 9) [.int .i64 n5] <|
        T.ret (.int .i64 (31 : Int)))
        (T.ret (.int .i64 (31 : Int)))))))))
theorem t_item_Right_c0_eq (k : Int) (s : ByteArray) (o : Int) (a : Int) (b : Int) (n : Int) (f : Int) (p : Option Addr) (l : Nat) (c : Nat) (m : Int) (q : Int) : xfun Tryz.prog [] Tryz.f68 [.agg #[.int .i64 k, .string s, .int .i64 o, .int .i64 a, .int .i64 b, .int .i32 n, .int .i64 f, .slice p l c, .int .u32 m, .int .i64 q], .int .i64 (0 : Int)] = t_item_Right_c0 k s o a b n f p l c m q := by kernel_rfl

/-- The tree of 27, at some arguments. -/
def t_item_Right_c1 (k : Int) (s : ByteArray) (o : Int) (a : Int) (b : Int) (n : Int) (f : Int) (p : Option Addr) (l : Nat) (c : Nat) (m : Int) (q : Int) : T :=
 T.new [.int .i64 k, .string s, .int .i64 o, .int .i64 a, .int .i64 b, .int .i32 n, .int .i64 f, .slice p l c, .int .u32 m, .int .i64 q] 102 <| fun (a1 : Addr) =>
 T.loads a1 [.int .i64] <| fun (n2 : Int) =>
 T.new [.int .i64 (0 : Int), .string ⟨#[]⟩, .int .i64 (0 : Int), .int .i64 (0 : Int), .int .i64 (0 : Int), .int .i32 (0 : Int), .int .i64 (0 : Int), .slice none 0 0, .int .u32 (0 : Int), .int .i64 (0 : Int)] 102 <| fun (a3 : Addr) =>
 T.stores a3 [.int .i64 n2, .string ⟨#[]⟩, .int .i64 (0 : Int), .int .i64 (0 : Int), .int .i64 (0 : Int), .int .i32 (0 : Int), .int .i64 (0 : Int), .slice none 0 0, .int .u32 (0 : Int), .int .i64 (0 : Int)] <|
 T.loads a1 [.int .i64] <| fun (n4 : Int) =>
 cond (n4 == (1 : Int))
  (T.loads (a1.add 1) [.string] <| fun (s5 : ByteArray) =>
  T.stores (a3.add 1) [.string s5] <|
  T.loads (a1.add 1) [.string] <| fun (s6 : ByteArray) =>
  T.call Tryz.prog 69 [.string s6] false [(false, [.bool])] <| fun (b7 : Bool) =>
  cond (!b7)
   (T.ret (.int .i64 (31 : Int)))
   (T.loads (a1.add 1) [.string] <| fun (s8 : ByteArray) =>
   T.loads (a3.add 1) [.string] <| fun (s9 : ByteArray) =>
   cond (!((ByteArray.toList s8) == (ByteArray.toList s9)))
    (T.ret (.int .i64 (31 : Int)))
    (T.loads (a1.add 2) [.int .i64, .int .i64, .int .i64, .int .i32, .int .i64] <| fun (n10 : Int) (n11 : Int) (n12 : Int) (n13 : Int) (n14 : Int) =>
    T.loads (a3.add 2) [.int .i64, .int .i64, .int .i64, .int .i32, .int .i64] <| fun (n15 : Int) (n16 : Int) (n17 : Int) (n18 : Int) (n19 : Int) =>
    T.sem Tryz.prog (Sx.cmpS (BinOp.neq) 100 (Operand.tmp 109) (Operand.tmp 111) (.agg #[.int .i64 n10, .int .i64 n11, .int .i64 n12, .int .i32 n13, .int .i64 n14]) (.agg #[.int .i64 n15, .int .i64 n16, .int .i64 n17, .int .i32 n18, .int .i64 n19])) false [(false, [.bool])] <| fun (b20 : Bool) =>
    cond b20
     (T.ret (.int .i64 (31 : Int)))
     (T.loads (a1.add 9) [.int .i64] <| fun (n21 : Int) =>
     T.loads (a3.add 9) [.int .i64] <| fun (n22 : Int) =>
     cond (n21 != n22)
      (T.ret (.int .i64 (31 : Int)))
      (T.loads (a1.add 7) [.slice 104, .int .u32] <| fun (p23 : Option Addr) (l24 : Nat) (l25 : Nat) (n26 : Int) =>
      T.loads (a3.add 7) [.slice 104, .int .u32] <| fun (p27 : Option Addr) (l28 : Nat) (l29 : Nat) (n30 : Int) =>
      T.call Tryz.prog 88 [.agg #[.slice p23 l24 l25, .int .u32 n26], .agg #[.slice p27 l28 l29, .int .u32 n30]] false [(false, [.bool])] <| fun (b31 : Bool) =>
      cond (!b31)
       (T.ret (.int .i64 (31 : Int)))
       (T.ret (.int .i64 (0 : Int))))))))
  (cond (n4 == (2 : Int))
   (T.loads (a1.add 2) [.int .i64, .int .i64, .int .i64, .int .i32, .int .i64] <| fun (n5 : Int) (n6 : Int) (n7 : Int) (n8 : Int) (n9 : Int) =>
   T.loads (a1.add 7) [.slice 104, .int .u32] <| fun (p10 : Option Addr) (l11 : Nat) (l12 : Nat) (n13 : Int) =>
   T.stores (a3.add 2) [.int .i64 n5, .int .i64 n6, .int .i64 n7, .int .i32 n8, .int .i64 n9] <|
   T.stable [((a1.add 7), [.slice p10 l11 l12, .int .u32 n13])] <|
   T.stores (a3.add 7) [.slice p10 l11 l12, .int .u32 n13] <|
   T.ret (.int .i64 (31 : Int)))
   (cond (n4 == (3 : Int))
    (T.loads (a1.add 9) [.int .i64] <| fun (n5 : Int) =>
    T.stores (a3.add 9) [.int .i64 n5] <|
    T.loads (a1.add 9) [.int .i64] <| fun (n6 : Int) =>
    T.call Tryz.prog 87 [.int .i64 n6] false [(false, [.bool])] <| fun (b7 : Bool) =>
    cond (!b7)
     (T.ret (.int .i64 (31 : Int)))
     (T.loads (a1.add 1) [.string] <| fun (s8 : ByteArray) =>
     T.loads (a3.add 1) [.string] <| fun (s9 : ByteArray) =>
     cond (!((ByteArray.toList s8) == (ByteArray.toList s9)))
      (T.ret (.int .i64 (31 : Int)))
      (T.loads (a1.add 2) [.int .i64, .int .i64, .int .i64, .int .i32, .int .i64] <| fun (n10 : Int) (n11 : Int) (n12 : Int) (n13 : Int) (n14 : Int) =>
      T.loads (a3.add 2) [.int .i64, .int .i64, .int .i64, .int .i32, .int .i64] <| fun (n15 : Int) (n16 : Int) (n17 : Int) (n18 : Int) (n19 : Int) =>
      T.sem Tryz.prog (Sx.cmpS (BinOp.neq) 100 (Operand.tmp 109) (Operand.tmp 111) (.agg #[.int .i64 n10, .int .i64 n11, .int .i64 n12, .int .i32 n13, .int .i64 n14]) (.agg #[.int .i64 n15, .int .i64 n16, .int .i64 n17, .int .i32 n18, .int .i64 n19])) false [(false, [.bool])] <| fun (b20 : Bool) =>
      cond b20
       (T.ret (.int .i64 (31 : Int)))
       (T.loads (a1.add 9) [.int .i64] <| fun (n21 : Int) =>
       T.loads (a3.add 9) [.int .i64] <| fun (n22 : Int) =>
       cond (n21 != n22)
        (T.ret (.int .i64 (31 : Int)))
        (T.loads (a1.add 7) [.slice 104, .int .u32] <| fun (p23 : Option Addr) (l24 : Nat) (l25 : Nat) (n26 : Int) =>
        T.loads (a3.add 7) [.slice 104, .int .u32] <| fun (p27 : Option Addr) (l28 : Nat) (l29 : Nat) (n30 : Int) =>
        T.call Tryz.prog 88 [.agg #[.slice p23 l24 l25, .int .u32 n26], .agg #[.slice p27 l28 l29, .int .u32 n30]] false [(false, [.bool])] <| fun (b31 : Bool) =>
        cond (!b31)
         (T.ret (.int .i64 (31 : Int)))
         (T.ret (.int .i64 (0 : Int))))))))
    (cond (n4 == (4 : Int))
     (T.ret (.int .i64 (31 : Int)))
     (cond (n4 == (5 : Int))
      (T.loads (a1.add 9) [.int .i64] <| fun (n5 : Int) =>
      T.stores (a3.add 9) [.int .i64 n5] <|
      T.loads (a1.add 9) [.int .i64] <| fun (n6 : Int) =>
      cond (decide (n6 ≥ (-128 : Int)))
       (T.loads (a1.add 9) [.int .i64] <| fun (n7 : Int) =>
       cond (!(decide (n7 ≤ (255 : Int))))
        (T.ret (.int .i64 (31 : Int)))
        (T.loads (a1.add 1) [.string] <| fun (s8 : ByteArray) =>
        T.loads (a3.add 1) [.string] <| fun (s9 : ByteArray) =>
        cond (!((ByteArray.toList s8) == (ByteArray.toList s9)))
         (T.ret (.int .i64 (31 : Int)))
         (T.loads (a1.add 2) [.int .i64, .int .i64, .int .i64, .int .i32, .int .i64] <| fun (n10 : Int) (n11 : Int) (n12 : Int) (n13 : Int) (n14 : Int) =>
         T.loads (a3.add 2) [.int .i64, .int .i64, .int .i64, .int .i32, .int .i64] <| fun (n15 : Int) (n16 : Int) (n17 : Int) (n18 : Int) (n19 : Int) =>
         T.sem Tryz.prog (Sx.cmpS (BinOp.neq) 100 (Operand.tmp 109) (Operand.tmp 111) (.agg #[.int .i64 n10, .int .i64 n11, .int .i64 n12, .int .i32 n13, .int .i64 n14]) (.agg #[.int .i64 n15, .int .i64 n16, .int .i64 n17, .int .i32 n18, .int .i64 n19])) false [(false, [.bool])] <| fun (b20 : Bool) =>
         cond b20
          (T.ret (.int .i64 (31 : Int)))
          (T.loads (a1.add 9) [.int .i64] <| fun (n21 : Int) =>
          T.loads (a3.add 9) [.int .i64] <| fun (n22 : Int) =>
          cond (n21 != n22)
           (T.ret (.int .i64 (31 : Int)))
           (T.loads (a1.add 7) [.slice 104, .int .u32] <| fun (p23 : Option Addr) (l24 : Nat) (l25 : Nat) (n26 : Int) =>
           T.loads (a3.add 7) [.slice 104, .int .u32] <| fun (p27 : Option Addr) (l28 : Nat) (l29 : Nat) (n30 : Int) =>
           T.call Tryz.prog 88 [.agg #[.slice p23 l24 l25, .int .u32 n26], .agg #[.slice p27 l28 l29, .int .u32 n30]] false [(false, [.bool])] <| fun (b31 : Bool) =>
           cond (!b31)
            (T.ret (.int .i64 (31 : Int)))
            (T.ret (.int .i64 (0 : Int))))))))
       (T.ret (.int .i64 (31 : Int))))
      (cond (n4 == (6 : Int))
       (T.loads (a1.add 7) [.slice 104, .int .u32] <| fun (p5 : Option Addr) (l6 : Nat) (l7 : Nat) (n8 : Int) =>
       T.stores (a3.add 7) [.slice p5 l6 l7, .int .u32 n8] <|
       T.loads (a1.add 7) [.slice 104, .int .u32] <| fun (p9 : Option Addr) (l10 : Nat) (l11 : Nat) (n12 : Int) =>
       T.call Tryz.prog 70 [.agg #[.slice p9 l10 l11, .int .u32 n12]] false [(false, [.bool])] <| fun (b13 : Bool) =>
       cond (!b13)
        (T.ret (.int .i64 (31 : Int)))
        (T.loads (a1.add 1) [.string] <| fun (s14 : ByteArray) =>
        T.loads (a3.add 1) [.string] <| fun (s15 : ByteArray) =>
        cond (!((ByteArray.toList s14) == (ByteArray.toList s15)))
         (T.ret (.int .i64 (31 : Int)))
         (T.loads (a1.add 2) [.int .i64, .int .i64, .int .i64, .int .i32, .int .i64] <| fun (n16 : Int) (n17 : Int) (n18 : Int) (n19 : Int) (n20 : Int) =>
         T.loads (a3.add 2) [.int .i64, .int .i64, .int .i64, .int .i32, .int .i64] <| fun (n21 : Int) (n22 : Int) (n23 : Int) (n24 : Int) (n25 : Int) =>
         T.sem Tryz.prog (Sx.cmpS (BinOp.neq) 100 (Operand.tmp 109) (Operand.tmp 111) (.agg #[.int .i64 n16, .int .i64 n17, .int .i64 n18, .int .i32 n19, .int .i64 n20]) (.agg #[.int .i64 n21, .int .i64 n22, .int .i64 n23, .int .i32 n24, .int .i64 n25])) false [(false, [.bool])] <| fun (b26 : Bool) =>
         cond b26
          (T.ret (.int .i64 (31 : Int)))
          (T.loads (a1.add 9) [.int .i64] <| fun (n27 : Int) =>
          T.loads (a3.add 9) [.int .i64] <| fun (n28 : Int) =>
          cond (n27 != n28)
           (T.ret (.int .i64 (31 : Int)))
           (T.loads (a1.add 7) [.slice 104, .int .u32] <| fun (p29 : Option Addr) (l30 : Nat) (l31 : Nat) (n32 : Int) =>
           T.loads (a3.add 7) [.slice 104, .int .u32] <| fun (p33 : Option Addr) (l34 : Nat) (l35 : Nat) (n36 : Int) =>
           T.call Tryz.prog 88 [.agg #[.slice p29 l30 l31, .int .u32 n32], .agg #[.slice p33 l34 l35, .int .u32 n36]] false [(false, [.bool])] <| fun (b37 : Bool) =>
           cond (!b37)
            (T.ret (.int .i64 (31 : Int)))
            (T.ret (.int .i64 (0 : Int))))))))
       (cond (n4 == (7 : Int))
        (T.loads (a1.add 9) [.int .i64] <| fun (n5 : Int) =>
        T.stores (a3.add 9) [.int .i64 n5] <|
        T.loads (a1.add 9) [.int .i64] <| fun (n6 : Int) =>
        cond (decide (n6 ≥ (0 : Int)))
         (T.loads (a1.add 9) [.int .i64] <| fun (n7 : Int) =>
         cond (!(decide (n7 ≤ (1048576 : Int))))
          (T.ret (.int .i64 (31 : Int)))
          (T.loads (a1.add 1) [.string] <| fun (s8 : ByteArray) =>
          T.loads (a3.add 1) [.string] <| fun (s9 : ByteArray) =>
          cond (!((ByteArray.toList s8) == (ByteArray.toList s9)))
           (T.ret (.int .i64 (31 : Int)))
           (T.loads (a1.add 2) [.int .i64, .int .i64, .int .i64, .int .i32, .int .i64] <| fun (n10 : Int) (n11 : Int) (n12 : Int) (n13 : Int) (n14 : Int) =>
           T.loads (a3.add 2) [.int .i64, .int .i64, .int .i64, .int .i32, .int .i64] <| fun (n15 : Int) (n16 : Int) (n17 : Int) (n18 : Int) (n19 : Int) =>
           T.sem Tryz.prog (Sx.cmpS (BinOp.neq) 100 (Operand.tmp 109) (Operand.tmp 111) (.agg #[.int .i64 n10, .int .i64 n11, .int .i64 n12, .int .i32 n13, .int .i64 n14]) (.agg #[.int .i64 n15, .int .i64 n16, .int .i64 n17, .int .i32 n18, .int .i64 n19])) false [(false, [.bool])] <| fun (b20 : Bool) =>
           cond b20
            (T.ret (.int .i64 (31 : Int)))
            (T.loads (a1.add 9) [.int .i64] <| fun (n21 : Int) =>
            T.loads (a3.add 9) [.int .i64] <| fun (n22 : Int) =>
            cond (n21 != n22)
             (T.ret (.int .i64 (31 : Int)))
             (T.loads (a1.add 7) [.slice 104, .int .u32] <| fun (p23 : Option Addr) (l24 : Nat) (l25 : Nat) (n26 : Int) =>
             T.loads (a3.add 7) [.slice 104, .int .u32] <| fun (p27 : Option Addr) (l28 : Nat) (l29 : Nat) (n30 : Int) =>
             T.call Tryz.prog 88 [.agg #[.slice p23 l24 l25, .int .u32 n26], .agg #[.slice p27 l28 l29, .int .u32 n30]] false [(false, [.bool])] <| fun (b31 : Bool) =>
             cond (!b31)
              (T.ret (.int .i64 (31 : Int)))
              (T.ret (.int .i64 (0 : Int))))))))
         (T.ret (.int .i64 (31 : Int))))
        (T.ret (.int .i64 (31 : Int)))))))))
theorem t_item_Right_c1_eq (k : Int) (s : ByteArray) (o : Int) (a : Int) (b : Int) (n : Int) (f : Int) (p : Option Addr) (l : Nat) (c : Nat) (m : Int) (q : Int) : xfun Tryz.prog [] Tryz.f68 [.agg #[.int .i64 k, .string s, .int .i64 o, .int .i64 a, .int .i64 b, .int .i32 n, .int .i64 f, .slice p l c, .int .u32 m, .int .i64 q], .int .i64 (1 : Int)] = t_item_Right_c1 k s o a b n f p l c m q := by kernel_rfl

end Go.Sx
