/- Trees of functions, each checked by the kernel against the code. No condition. -/
import Derived.Test.YtpbjlnlekobodaaDoorSxF
import Derived.Test.YtpbjlnlekobodaaDoorProg
import Derived.KernelRfl
set_option linter.unusedVariables false
set_option linter.unusedSimpArgs false
set_option linter.deprecated false
set_option maxRecDepth 100000
namespace Go.Sx
open Go.Proofs
/-- The tree of 61. -/
def t_expr_Text (pp00 : Option Addr) (ll00 cc00 : Nat) (n1_0 : Int) : T :=
 T.new [.slice pp00 ll00 cc00, .int .u32 n1_0] 69 <| fun (a1 : Addr) =>
 T.loads a1 [.slice 80] <| fun (p2 : Option Addr) (l3 : Nat) (l4 : Nat) =>
 T.loop [(false, [.slice 0]), (false, [.int .i64])] [.slice none 0 0, .int .i64 (0 : Int)] <| fun (p5 : Option Addr) (l6 : Nat) (l7 : Nat) (n8 : Int) =>
 cond (decide (n8 < (l3 : Int)))
  (T.need (((0 : Int) ≤ n8) ∧ (n8 < (l3 : Int))) <|
  T.osome p2 <| fun (a9 : Addr) =>
  T.loads (a9.add ((Int.toNat n8) * 2)) [.string, .int .u32] <| fun (s10 : ByteArray) (n11 : Int) =>
  T.new [.string ⟨#[]⟩, .int .u32 (0 : Int)] 80 <| fun (a12 : Addr) =>
  T.stores a12 [.string s10, .int .u32 n11] <|
  T.loads (a12.add 1) [.int .u32] <| fun (n13 : Int) =>
  cond (n13 == (1 : Int))
   (T.loads a12 [.string] <| fun (s14 : ByteArray) =>
   T.sem Tryd.prog (Instr.buildSlice 44 1 #[(0, .string s14)]) false [(false, [.slice 0])] <| fun (p15 : Option Addr) (l16 : Nat) (l17 : Nat) =>
   T.sem Tryd.prog (Builtin.append_ #[44, 44] 44 #[.slice p5 l6 l7, .slice p15 l16 l17]) false [(false, [.slice 0])] <| fun (p18 : Option Addr) (l19 : Nat) (l20 : Nat) =>
   T.again 0 [.slice p18 l19 l20, .int .i64 (IntKind.wrap .i64 (n8 + (1 : Int)))])
   (T.loads (a12.add 1) [.int .u32] <| fun (n14 : Int) =>
   T.loads a12 [.string] <| fun (s15 : ByteArray) =>
   T.call Tryd.prog 88 [.int .u64 (IntKind.wrap .u64 n14), .int .i64 (10 : Int)] false [(false, [.string])] <| fun (s16 : ByteArray) =>
   T.stable [(a12, [.string s15]), ((a12.add 1), [.int .u32 n14])] <|
   T.need (((s16.size + 1) : Int) ≤ (9223372036854775807 : Int)) <|
   T.need ((((ByteArray.size (s16 ++ ⟨#[42]⟩)) + s15.size) : Int) ≤ (9223372036854775807 : Int)) <|
   T.sem Tryd.prog (Instr.buildSlice 44 1 #[(0, .string ((s16 ++ ⟨#[42]⟩) ++ s15))]) false [(false, [.slice 0])] <| fun (p17 : Option Addr) (l18 : Nat) (l19 : Nat) =>
   T.stable [(a12, [.string s15]), ((a12.add 1), [.int .u32 n14])] <|
   T.sem Tryd.prog (Builtin.append_ #[44, 44] 44 #[.slice p5 l6 l7, .slice p17 l18 l19]) false [(false, [.slice 0])] <| fun (p20 : Option Addr) (l21 : Nat) (l22 : Nat) =>
   T.stable [(a12, [.string s15]), ((a12.add 1), [.int .u32 n14])] <|
   T.again 0 [.slice p20 l21 l22, .int .i64 (IntKind.wrap .i64 (n8 + (1 : Int)))]))
  (T.loads (a1.add 1) [.int .u32] <| fun (n9 : Int) =>
  cond (n9 != (0 : Int))
   (T.loads (a1.add 1) [.int .u32] <| fun (n10 : Int) =>
   T.call Tryd.prog 88 [.int .u64 (IntKind.wrap .u64 n10), .int .i64 (10 : Int)] false [(false, [.string])] <| fun (s11 : ByteArray) =>
   T.sem Tryd.prog (Instr.buildSlice 44 1 #[(0, .string s11)]) false [(false, [.slice 0])] <| fun (p12 : Option Addr) (l13 : Nat) (l14 : Nat) =>
   T.sem Tryd.prog (Builtin.append_ #[44, 44] 44 #[.slice p5 l6 l7, .slice p12 l13 l14]) false [(false, [.slice 0])] <| fun (p15 : Option Addr) (l16 : Nat) (l17 : Nat) =>
   T.call Tryd.prog 89 [.slice p15 l16 l17, .string ⟨#[43]⟩] false [(false, [.string])] <| fun (s18 : ByteArray) =>
   T.ret (.string s18))
   (cond ((l6 : Int) == (0 : Int))
    (T.loads (a1.add 1) [.int .u32] <| fun (n10 : Int) =>
    T.call Tryd.prog 88 [.int .u64 (IntKind.wrap .u64 n10), .int .i64 (10 : Int)] false [(false, [.string])] <| fun (s11 : ByteArray) =>
    T.sem Tryd.prog (Instr.buildSlice 44 1 #[(0, .string s11)]) false [(false, [.slice 0])] <| fun (p12 : Option Addr) (l13 : Nat) (l14 : Nat) =>
    T.sem Tryd.prog (Builtin.append_ #[44, 44] 44 #[.slice p5 l6 l7, .slice p12 l13 l14]) false [(false, [.slice 0])] <| fun (p15 : Option Addr) (l16 : Nat) (l17 : Nat) =>
    T.call Tryd.prog 89 [.slice p15 l16 l17, .string ⟨#[43]⟩] false [(false, [.string])] <| fun (s18 : ByteArray) =>
    T.ret (.string s18))
    (T.call Tryd.prog 89 [.slice p5 l6 l7, .string ⟨#[43]⟩] false [(false, [.string])] <| fun (s10 : ByteArray) =>
    T.ret (.string s10))))
theorem t_expr_Text_eq (pp00 : Option Addr) (ll00 cc00 : Nat) (n1_0 : Int) : xfun Tryd.prog [] Tryd.f61 [.agg #[.slice pp00 ll00 cc00, .int .u32 n1_0]] = t_expr_Text pp00 ll00 cc00 n1_0 := by kernel_rfl

/-- The tree of 88. -/
def t_strconv_FormatUint (n0 : Int) (n1 : Int) : T :=
 T.call Tryd.prog 102 [.int .u64 n0, .int .i64 n1] false [(false, [.string])] <| fun (s2 : ByteArray) =>
 T.ret (.string s2)
theorem t_strconv_FormatUint_eq (n0 : Int) (n1 : Int) : xfun Tryd.prog [] Tryd.f88 [.int .u64 n0, .int .i64 n1] = t_strconv_FormatUint n0 n1 := by kernel_rfl

/-- The tree of 102. -/
def t_internal_strconv_FormatUint (n0 : Int) (n1 : Int) : T :=
 cond (n1 == (10 : Int))
  (cond (decide (n0 < (100 : Int)))
   (T.call Tryd.prog 115 [.int .i64 (IntKind.wrap .i64 n0)] false [(false, [.string])] <| fun (s2 : ByteArray) =>
   T.ret (.string s2))
   (T.new [.int .u8 (0 : Int), .int .u8 (0 : Int), .int .u8 (0 : Int), .int .u8 (0 : Int), .int .u8 (0 : Int), .int .u8 (0 : Int), .int .u8 (0 : Int), .int .u8 (0 : Int), .int .u8 (0 : Int), .int .u8 (0 : Int), .int .u8 (0 : Int), .int .u8 (0 : Int), .int .u8 (0 : Int), .int .u8 (0 : Int), .int .u8 (0 : Int), .int .u8 (0 : Int), .int .u8 (0 : Int), .int .u8 (0 : Int), .int .u8 (0 : Int), .int .u8 (0 : Int), .int .u8 (0 : Int), .int .u8 (0 : Int), .int .u8 (0 : Int), .int .u8 (0 : Int)] 151 <| fun (a2 : Addr) =>
   T.call Tryd.prog 116 [.int .u64 n0] false [(false, [.int .i64])] <| fun (n3 : Int) =>
   T.sem Tryd.prog (Instr.sliceAt 151 (.pointer (some a2)) none (some (.int .i64 n3)) none) false [(false, [.slice 0])] <| fun (p4 : Option Addr) (l5 : Nat) (l6 : Nat) =>
   T.call Tryd.prog 117 [.slice p4 l5 l6, .int .u64 n0] true [] <| T.sem Tryd.prog (Instr.sliceAt 151 (.pointer (some a2)) none (some (.int .i64 n3)) none) false [(false, [.slice 0])] <| fun (p7 : Option Addr) (l8 : Nat) (l9 : Nat) =>
   T.sem Tryd.prog (convert 142 9 (.slice p7 l8 l9)) false [(false, [.string])] <| fun (s10 : ByteArray) =>
   T.ret (.string s10)))
  (T.call Tryd.prog 118 [.slice none 0 0, .int .u64 n0, .int .i64 n1, .bool false, .bool false] true [(false, [.slice 5]), (false, [.string])] <| fun (p2 : Option Addr) (l3 : Nat) (l4 : Nat) (s5 : ByteArray) =>
  T.ret (.string s5))
theorem t_internal_strconv_FormatUint_eq (n0 : Int) (n1 : Int) : xfun Tryd.prog [] Tryd.f102 [.int .u64 n0, .int .i64 n1] = t_internal_strconv_FormatUint n0 n1 := by kernel_rfl

end Go.Sx
