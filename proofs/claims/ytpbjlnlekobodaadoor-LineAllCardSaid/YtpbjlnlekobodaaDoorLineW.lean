/- Trees of functions, each checked by the kernel against the code. No condition. -/
import Derived.Test.YtpbjlnlekobodaaDoorSxF
import Derived.Test.YtpbjlnlekobodaaDoorProg
import Derived.KernelRfl
set_option linter.unusedVariables false
set_option linter.unusedSimpArgs false
set_option linter.deprecated false
set_option maxRecDepth 100000
namespace Go.Sx
open Go.Proofs
/-- The tree of 39. -/
def t_line_All (s0 : ByteArray) : T :=
 T.new [.string s0] 9 <| fun (a1 : Addr) =>
 T.ret (.func (Fn.func 76) #[] #[.pointer (some a1)])
theorem t_line_All_eq (s0 : ByteArray) : xfun Tryd.prog [] Tryd.f39 [.string s0] = t_line_All s0 := by kernel_rfl

/-- The tree of 40. -/
def t_spandrelref3_Lines (s0 : ByteArray) : T :=
 T.loop [(false, [.slice 0]), (false, [.int .i64]), (false, [.int .i64])] [.slice none 0 0, .int .i64 (0 : Int), .int .i64 (0 : Int)] <| fun (p1 : Option Addr) (l2 : Nat) (l3 : Nat) (n4 : Int) (n5 : Int) =>
 cond (decide (n5 < (s0.size : Int)))
  (T.need (((0 : Int) ≤ n5) ∧ (n5 < (s0.size : Int))) <|
  cond ((sbyte s0 n5) == (10 : Int))
   (T.need (((0 : Int) ≤ n4) ∧ ((n4 ≤ n5) ∧ (n5 ≤ (s0.size : Int)))) <|
   T.sem Tryd.prog (Instr.buildSlice 44 1 #[(0, .string (ByteArray.extract s0 (Int.toNat n4) (Int.toNat n5)))]) false [(false, [.slice 0])] <| fun (p6 : Option Addr) (l7 : Nat) (l8 : Nat) =>
   T.sem Tryd.prog (Builtin.append_ #[44, 44] 44 #[.slice p1 l2 l3, .slice p6 l7 l8]) false [(false, [.slice 0])] <| fun (p9 : Option Addr) (l10 : Nat) (l11 : Nat) =>
   T.again 0 [.slice p9 l10 l11, .int .i64 (IntKind.wrap .i64 (n5 + (1 : Int))), .int .i64 (IntKind.wrap .i64 (n5 + (1 : Int)))])
   (T.again 0 [.slice p1 l2 l3, .int .i64 n4, .int .i64 (IntKind.wrap .i64 (n5 + (1 : Int)))]))
  (cond (decide (n4 < (s0.size : Int)))
   (T.need (((0 : Int) ≤ n4) ∧ ((n4 ≤ (s0.size : Int)) ∧ ((s0.size : Int) ≤ (s0.size : Int)))) <|
   T.sem Tryd.prog (Instr.buildSlice 44 1 #[(0, .string (ByteArray.extract s0 (Int.toNat n4) (Int.toNat (s0.size : Int))))]) false [(false, [.slice 0])] <| fun (p6 : Option Addr) (l7 : Nat) (l8 : Nat) =>
   T.sem Tryd.prog (Builtin.append_ #[44, 44] 44 #[.slice p1 l2 l3, .slice p6 l7 l8]) false [(false, [.slice 0])] <| fun (p9 : Option Addr) (l10 : Nat) (l11 : Nat) =>
   T.ret (.slice p9 l10 l11))
   (T.ret (.slice p1 l2 l3)))
theorem t_spandrelref3_Lines_eq (s0 : ByteArray) : xfun Tryd.prog [] Tryd.f40 [.string s0] = t_spandrelref3_Lines s0 := by kernel_rfl

/-- The tree of 41. -/
def t_spandrelbook_Within (n0 : Int) (n1 : Int) (n2 : Int) : T :=
 T.need ((IntKind.wrap .i64 ((IntKind.wrap .i64 (n2 - n1)) + (1 : Int))) ≠ (0 : Int)) <|
 cond (decide ((Int.tmod n0 (IntKind.wrap .i64 ((IntKind.wrap .i64 (n2 - n1)) + (1 : Int)))) < (0 : Int)))
  (T.ret (.int .i64 (IntKind.wrap .i64 (n1 + (IntKind.wrap .i64 ((IntKind.wrap .i64 ((IntKind.wrap .i64 ((Int.tmod n0 (IntKind.wrap .i64 ((IntKind.wrap .i64 (n2 - n1)) + (1 : Int)))) + n2)) - n1)) + (1 : Int)))))))
  (T.ret (.int .i64 (IntKind.wrap .i64 (n1 + (Int.tmod n0 (IntKind.wrap .i64 ((IntKind.wrap .i64 (n2 - n1)) + (1 : Int))))))))
theorem t_spandrelbook_Within_eq (n0 : Int) (n1 : Int) (n2 : Int) : xfun Tryd.prog [] Tryd.f41 [.int .i64 n0, .int .i64 n1, .int .i64 n2] = t_spandrelbook_Within n0 n1 n2 := by kernel_rfl

end Go.Sx
