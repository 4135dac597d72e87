/- Trees of functions, each checked by the kernel against the code. No condition. -/
import Derived.Test.YtnjohginlglonaaGreatDoorSxF
import Derived.Test.YtnjohginlglonaaGreatDoorProg
import Derived.KernelRfl
set_option linter.unusedVariables false
set_option linter.unusedSimpArgs false
set_option linter.deprecated false
set_option maxRecDepth 100000
namespace Go.Sx
open Go.Proofs
/-- The tree of 28. -/
def t_lex_Legal (s0 : ByteArray) : T :=
 T.call Tryz.prog 89 [.string s0] true [(false, [.int .i64]), (false, [.bool]), (false, [.bool])] <| fun (n1 : Int) (b2 : Bool) (b3 : Bool) =>
 cond (!((ByteArray.toList s0) == []))
  (cond (decide ((s0.size : Int) ≤ (32 : Int)))
   (T.call Tryz.prog 90 [.string s0, .string ⟨#[97, 98, 99, 100, 101, 102, 103, 104, 105, 106, 107, 108, 109, 110, 111, 112, 113, 114, 115, 116, 117, 118, 119, 120, 121, 122, 65, 66, 67, 68, 69, 70, 71, 72, 73, 74, 75, 76, 77, 78, 79, 80, 81, 82, 83, 84, 85, 86, 87, 88, 89, 90, 95]⟩] false [(false, [.int .i64])] <| fun (n4 : Int) =>
   cond (decide (n4 > (0 : Int)))
    (T.call Tryz.prog 90 [.string s0, .string ⟨#[97, 98, 99, 100, 101, 102, 103, 104, 105, 106, 107, 108, 109, 110, 111, 112, 113, 114, 115, 116, 117, 118, 119, 120, 121, 122, 65, 66, 67, 68, 69, 70, 71, 72, 73, 74, 75, 76, 77, 78, 79, 80, 81, 82, 83, 84, 85, 86, 87, 88, 89, 90, 95, 48, 49, 50, 51, 52, 53, 54, 55, 56, 57]⟩] false [(false, [.int .i64])] <| fun (n5 : Int) =>
    cond (n5 == (s0.size : Int))
     (T.ret (.bool (!b3)))
     (T.ret (.bool false)))
    (T.ret (.bool false)))
   (T.ret (.bool false)))
  (T.ret (.bool false))
theorem t_lex_Legal_eq (s0 : ByteArray) : xfun Tryz.prog [] Tryz.f69 [.string s0] = t_lex_Legal s0 := by kernel_rfl

/-- The tree of 29. -/
def t_expr_Right (pp00 : Option Addr) (ll00 cc00 : Nat) (n1_0 : Int) : T :=
 T.new [.slice pp00 ll00 cc00, .int .u32 n1_0] 75 <| fun (a1 : Addr) =>
 T.loads a1 [.slice 104] <| fun (p2 : Option Addr) (l3 : Nat) (l4 : Nat) =>
 T.loop [(false, [.bool]), (false, [.int .i64])] [.bool false, .int .i64 (0 : Int)] <| fun (b5 : Bool) (n6 : Int) =>
 cond (decide (n6 < (l3 : Int)))
  (T.need (((0 : Int) ≤ n6) ∧ (n6 < (l3 : Int))) <|
  T.osome p2 <| fun (a7 : Addr) =>
  T.loads (a7.add ((Int.toNat n6) * 2)) [.string, .int .u32] <| fun (s8 : ByteArray) (n9 : Int) =>
  T.new [.string ⟨#[]⟩, .int .u32 (0 : Int)] 104 <| fun (a10 : Addr) =>
  T.stores a10 [.string s8, .int .u32 n9] <|
  T.loads (a10.add 1) [.int .u32] <| fun (n11 : Int) =>
  cond (n11 == (0 : Int))
   (T.ret (.bool false))
   (T.loads a10 [.string] <| fun (s12 : ByteArray) =>
   T.call Tryz.prog 69 [.string s12] false [(false, [.bool])] <| fun (b13 : Bool) =>
   T.stable [((a10.add 1), [.int .u32 n11])] <|
   cond (!b13)
    (T.ret (.bool false))
    (cond (decide (n6 > (0 : Int)))
     (T.loads a10 [.string] <| fun (s14 : ByteArray) =>
     T.loads a1 [.slice 104] <| fun (p15 : Option Addr) (l16 : Nat) (l17 : Nat) =>
     T.need (((0 : Int) ≤ (IntKind.wrap .i64 (n6 - (1 : Int)))) ∧ ((IntKind.wrap .i64 (n6 - (1 : Int))) < (l16 : Int))) <|
     T.osome p15 <| fun (a18 : Addr) =>
     T.loads (a18.add ((Int.toNat (IntKind.wrap .i64 (n6 - (1 : Int)))) * 2)) [.string] <| fun (s19 : ByteArray) =>
     cond ((Op.bytesLess (ByteArray.toList s14) (ByteArray.toList s19)) || ((ByteArray.toList s14) == (ByteArray.toList s19)))
      (T.ret (.bool false))
      (T.again 0 [.bool b5, .int .i64 (IntKind.wrap .i64 (n6 + (1 : Int)))]))
     (T.again 0 [.bool b5, .int .i64 (IntKind.wrap .i64 (n6 + (1 : Int)))]))))
  (T.ret (.bool true))
theorem t_expr_Right_eq (pp00 : Option Addr) (ll00 cc00 : Nat) (n1_0 : Int) : xfun Tryz.prog [] Tryz.f70 [.agg #[.slice pp00 ll00 cc00, .int .u32 n1_0]] = t_expr_Right pp00 ll00 cc00 n1_0 := by kernel_rfl

/-- The tree of 50. -/
def t_lex_Register (s0 : ByteArray) : T :=
 cond ((s0.size : Int) != (2 : Int))
  (T.ret (.tuple #[.int .i64 (0 : Int), .bool false, .bool false]))
  (T.need (((0 : Int) ≤ (1 : Int)) ∧ ((1 : Int) < (s0.size : Int))) <|
  T.need (((0 : Int) ≤ (0 : Int)) ∧ ((0 : Int) < (s0.size : Int))) <|
  cond ((sbyte s0 (0 : Int)) == (114 : Int))
   (cond (decide ((IntKind.wrap .i64 ((IntKind.wrap .i64 (sbyte s0 (1 : Int))) - (48 : Int))) ≥ (0 : Int)))
    (cond (decide ((IntKind.wrap .i64 ((IntKind.wrap .i64 (sbyte s0 (1 : Int))) - (48 : Int))) < (8 : Int)))
     (T.ret (.tuple #[.int .i64 (IntKind.wrap .i64 ((IntKind.wrap .i64 (sbyte s0 (1 : Int))) - (48 : Int))), .bool false, .bool true]))
     (T.need (((0 : Int) ≤ (0 : Int)) ∧ ((0 : Int) < (s0.size : Int))) <|
     cond ((sbyte s0 (0 : Int)) == (122 : Int))
      (cond (decide ((IntKind.wrap .i64 ((IntKind.wrap .i64 (sbyte s0 (1 : Int))) - (48 : Int))) ≥ (0 : Int)))
       (cond (decide ((IntKind.wrap .i64 ((IntKind.wrap .i64 (sbyte s0 (1 : Int))) - (48 : Int))) < (4 : Int)))
        (T.ret (.tuple #[.int .i64 (IntKind.wrap .i64 ((IntKind.wrap .i64 (sbyte s0 (1 : Int))) - (48 : Int))), .bool true, .bool true]))
        (T.ret (.tuple #[.int .i64 (0 : Int), .bool false, .bool false])))
       (T.ret (.tuple #[.int .i64 (0 : Int), .bool false, .bool false])))
      (T.ret (.tuple #[.int .i64 (0 : Int), .bool false, .bool false]))))
    (T.need (((0 : Int) ≤ (0 : Int)) ∧ ((0 : Int) < (s0.size : Int))) <|
    cond ((sbyte s0 (0 : Int)) == (122 : Int))
     (cond (decide ((IntKind.wrap .i64 ((IntKind.wrap .i64 (sbyte s0 (1 : Int))) - (48 : Int))) ≥ (0 : Int)))
      (cond (decide ((IntKind.wrap .i64 ((IntKind.wrap .i64 (sbyte s0 (1 : Int))) - (48 : Int))) < (4 : Int)))
       (T.ret (.tuple #[.int .i64 (IntKind.wrap .i64 ((IntKind.wrap .i64 (sbyte s0 (1 : Int))) - (48 : Int))), .bool true, .bool true]))
       (T.ret (.tuple #[.int .i64 (0 : Int), .bool false, .bool false])))
      (T.ret (.tuple #[.int .i64 (0 : Int), .bool false, .bool false])))
     (T.ret (.tuple #[.int .i64 (0 : Int), .bool false, .bool false]))))
   (T.need (((0 : Int) ≤ (0 : Int)) ∧ ((0 : Int) < (s0.size : Int))) <|
   cond ((sbyte s0 (0 : Int)) == (122 : Int))
    (cond (decide ((IntKind.wrap .i64 ((IntKind.wrap .i64 (sbyte s0 (1 : Int))) - (48 : Int))) ≥ (0 : Int)))
     (cond (decide ((IntKind.wrap .i64 ((IntKind.wrap .i64 (sbyte s0 (1 : Int))) - (48 : Int))) < (4 : Int)))
      (T.ret (.tuple #[.int .i64 (IntKind.wrap .i64 ((IntKind.wrap .i64 (sbyte s0 (1 : Int))) - (48 : Int))), .bool true, .bool true]))
      (T.ret (.tuple #[.int .i64 (0 : Int), .bool false, .bool false])))
     (T.ret (.tuple #[.int .i64 (0 : Int), .bool false, .bool false])))
    (T.ret (.tuple #[.int .i64 (0 : Int), .bool false, .bool false]))))
theorem t_lex_Register_eq (s0 : ByteArray) : xfun Tryz.prog [] Tryz.f89 [.string s0] = t_lex_Register s0 := by kernel_rfl

/-- The tree of 51. -/
def t_lex_row (s0 : ByteArray) (s1 : ByteArray) : T :=
 T.loop [(false, [.int .i64])] [.int .i64 (0 : Int)] <| fun (n2 : Int) =>
 cond (decide (n2 < (s0.size : Int)))
  (T.need (((0 : Int) ≤ n2) ∧ (n2 < (s0.size : Int))) <|
  T.call Tryz.prog 101 [.string s1, .int .u8 (sbyte s0 n2)] false [(false, [.int .i64])] <| fun (n3 : Int) =>
  cond (decide (n3 ≥ (0 : Int)))
   (T.again 0 [.int .i64 (IntKind.wrap .i64 (n2 + (1 : Int)))])
   (T.ret (.int .i64 n2)))
  (T.ret (.int .i64 n2))
theorem t_lex_row_eq (s0 : ByteArray) (s1 : ByteArray) : xfun Tryz.prog [] Tryz.f90 [.string s0, .string s1] = t_lex_row s0 s1 := by kernel_rfl

/-- The tree of 61. -/
def t_strings_IndexByte (s0 : ByteArray) (n1 : Int) : T :=
 T.call Tryz.prog 109 [.string s0, .int .u8 n1] false [(false, [.int .i64])] <| fun (n2 : Int) =>
 T.ret (.int .i64 n2)
theorem t_strings_IndexByte_eq (s0 : ByteArray) (n1 : Int) : xfun Tryz.prog [] Tryz.f101 [.string s0, .int .u8 n1] = t_strings_IndexByte s0 n1 := by kernel_rfl

/-- The tree of 67. -/
def t_internal_stringslite_IndexByte (s0 : ByteArray) (n1 : Int) : T :=
 T.sem Tryz.prog (Sx.extS 117 #[.string s0, .int .u8 n1]) false [(false, [.int .i64])] <| fun (n2 : Int) =>
 T.ret (.int .i64 n2)
theorem t_internal_stringslite_IndexByte_eq (s0 : ByteArray) (n1 : Int) : xfun Tryz.prog [] Tryz.f109 [.string s0, .int .u8 n1] = t_internal_stringslite_IndexByte s0 n1 := by kernel_rfl

/-- The tree of 46. -/
def t_spandrelref4_Same (pp00 : Option Addr) (ll00 cc00 : Nat) (n1_0 : Int) (pp10 : Option Addr) (ll10 cc10 : Nat) (n1_1 : Int) : T :=
 T.new [.slice pp00 ll00 cc00, .int .u32 n1_0] 75 <| fun (a2 : Addr) =>
 T.new [.slice pp10 ll10 cc10, .int .u32 n1_1] 75 <| fun (a3 : Addr) =>
 T.loads (a2.add 1) [.int .u32] <| fun (n4 : Int) =>
 T.loads (a3.add 1) [.int .u32] <| fun (n5 : Int) =>
 cond (n4 != n5)
  (T.ret (.bool false))
  (T.loads a2 [.slice 104] <| fun (p6 : Option Addr) (l7 : Nat) (l8 : Nat) =>
  T.loads a3 [.slice 104] <| fun (p9 : Option Addr) (l10 : Nat) (l11 : Nat) =>
  cond ((l7 : Int) != (l10 : Int))
   (T.ret (.bool false))
   (T.loop [(false, [.bool]), (false, [.int .i64])] [.bool false, .int .i64 (0 : Int)] <| fun (b12 : Bool) (n13 : Int) =>
   T.loads a2 [.slice 104] <| fun (p14 : Option Addr) (l15 : Nat) (l16 : Nat) =>
   cond (decide (n13 < (l15 : Int)))
    (T.loads a2 [.slice 104] <| fun (p17 : Option Addr) (l18 : Nat) (l19 : Nat) =>
    T.need (((0 : Int) ≤ n13) ∧ (n13 < (l18 : Int))) <|
    T.osome p17 <| fun (a20 : Addr) =>
    T.loads (a20.add ((Int.toNat n13) * 2)) [.string, .int .u32] <| fun (s21 : ByteArray) (n22 : Int) =>
    T.loads a3 [.slice 104] <| fun (p23 : Option Addr) (l24 : Nat) (l25 : Nat) =>
    T.need (((0 : Int) ≤ n13) ∧ (n13 < (l24 : Int))) <|
    T.osome p23 <| fun (a26 : Addr) =>
    T.loads (a26.add ((Int.toNat n13) * 2)) [.string, .int .u32] <| fun (s27 : ByteArray) (n28 : Int) =>
    T.sem Tryz.prog (Sx.cmpS (BinOp.neq) 104 (Operand.tmp 31) (Operand.tmp 36) (.agg #[.string s21, .int .u32 n22]) (.agg #[.string s27, .int .u32 n28])) false [(false, [.bool])] <| fun (b29 : Bool) =>
    T.stable [(a3, [.slice p23 l24 l25]), (a2, [.slice p17 l18 l19])] <|
    cond b29
     (T.ret (.bool false))
     (T.again 0 [.bool b12, .int .i64 (IntKind.wrap .i64 (n13 + (1 : Int)))]))
    (T.ret (.bool true))))
theorem t_spandrelref4_Same_eq (pp00 : Option Addr) (ll00 cc00 : Nat) (n1_0 : Int) (pp10 : Option Addr) (ll10 cc10 : Nat) (n1_1 : Int) : xfun Tryz.prog [] Tryz.f67 [.agg #[.slice pp00 ll00 cc00, .int .u32 n1_0], .agg #[.slice pp10 ll10 cc10, .int .u32 n1_1]] = t_spandrelref4_Same pp00 ll00 cc00 n1_0 pp10 ll10 cc10 n1_1 := by kernel_rfl

/-- The tree of 49. -/
def t_expr_Same (pp00 : Option Addr) (ll00 cc00 : Nat) (n1_0 : Int) (pp10 : Option Addr) (ll10 cc10 : Nat) (n1_1 : Int) : T :=
 T.new [.slice pp00 ll00 cc00, .int .u32 n1_0] 75 <| fun (a2 : Addr) =>
 T.new [.slice pp10 ll10 cc10, .int .u32 n1_1] 75 <| fun (a3 : Addr) =>
 T.loads (a2.add 1) [.int .u32] <| fun (n4 : Int) =>
 T.loads (a3.add 1) [.int .u32] <| fun (n5 : Int) =>
 cond (n4 == n5)
  (T.loads a2 [.slice 104] <| fun (p6 : Option Addr) (l7 : Nat) (l8 : Nat) =>
  T.loads a3 [.slice 104] <| fun (p9 : Option Addr) (l10 : Nat) (l11 : Nat) =>
  T.call Tryz.prog 100 [.slice p6 l7 l8, .slice p9 l10 l11] false [(false, [.bool])] <| fun (b12 : Bool) =>
  T.ret (.bool b12))
  (T.ret (.bool false))
theorem t_expr_Same_eq (pp00 : Option Addr) (ll00 cc00 : Nat) (n1_0 : Int) (pp10 : Option Addr) (ll10 cc10 : Nat) (n1_1 : Int) : xfun Tryz.prog [] Tryz.f88 [.agg #[.slice pp00 ll00 cc00, .int .u32 n1_0], .agg #[.slice pp10 ll10 cc10, .int .u32 n1_1]] = t_expr_Same pp00 ll00 cc00 n1_0 pp10 ll10 cc10 n1_1 := by kernel_rfl

/-- The tree of 60. -/
def t_slices_Equal___api_Term_api_Term_ (pp00 : Option Addr) (ll00 cc00 : Nat) (pp10 : Option Addr) (ll10 cc10 : Nat) : T :=
 cond ((ll00 : Int) != (ll10 : Int))
  (T.ret (.bool false))
  (T.loop [(false, [.bool]), (false, [.int .i64])] [.bool false, .int .i64 (0 : Int)] <| fun (b2 : Bool) (n3 : Int) =>
  cond (decide (n3 < (ll00 : Int)))
   (T.need (((0 : Int) ≤ n3) ∧ (n3 < (ll00 : Int))) <|
   T.osome pp00 <| fun (a4 : Addr) =>
   T.loads (a4.add ((Int.toNat n3) * 2)) [.string, .int .u32] <| fun (s5 : ByteArray) (n6 : Int) =>
   T.need (((0 : Int) ≤ n3) ∧ (n3 < (ll10 : Int))) <|
   T.osome pp10 <| fun (a7 : Addr) =>
   T.loads (a7.add ((Int.toNat n3) * 2)) [.string, .int .u32] <| fun (s8 : ByteArray) (n9 : Int) =>
   T.sem Tryz.prog (Sx.cmpS (BinOp.neq) 104 (Operand.tmp 19) (Operand.tmp 23) (.agg #[.string s5, .int .u32 n6]) (.agg #[.string s8, .int .u32 n9])) false [(false, [.bool])] <| fun (b10 : Bool) =>
   cond b10
    (T.ret (.bool false))
    (T.again 0 [.bool b2, .int .i64 (IntKind.wrap .i64 (n3 + (1 : Int)))]))
   (T.ret (.bool true)))
theorem t_slices_Equal___api_Term_api_Term__eq (pp00 : Option Addr) (ll00 cc00 : Nat) (pp10 : Option Addr) (ll10 cc10 : Nat) : xfun Tryz.prog [] Tryz.f100 [.slice pp00 ll00 cc00, .slice pp10 ll10 cc10] = t_slices_Equal___api_Term_api_Term_ pp00 ll00 cc00 pp10 ll10 cc10 := by kernel_rfl

/-- The tree of 52. -/
def t_isa_At (n0 : Int) : T :=
 T.new [.string ⟨#[]⟩, .int .u8 (0 : Int), .int .i64 (0 : Int)] 155 <| fun (a1 : Addr) =>
 cond (decide (n0 < (1 : Int)))
  (T.stores a1 [.string ⟨#[]⟩, .int .u8 (0 : Int), .int .i64 (0 : Int)] <|
  T.loads a1 [.string, .int .u8, .int .i64] <| fun (s2 : ByteArray) (n3 : Int) (n4 : Int) =>
  T.ret (.tuple #[.agg #[.string s2, .int .u8 n3, .int .i64 n4], .bool false]))
  (cond (decide (n0 > (43 : Int)))
   (T.stores a1 [.string ⟨#[]⟩, .int .u8 (0 : Int), .int .i64 (0 : Int)] <|
   T.loads a1 [.string, .int .u8, .int .i64] <| fun (s2 : ByteArray) (n3 : Int) (n4 : Int) =>
   T.ret (.tuple #[.agg #[.string s2, .int .u8 n3, .int .i64 n4], .bool false]))
   (T.need (((0 : Int) ≤ (IntKind.wrap .i64 (n0 - (1 : Int)))) ∧ ((IntKind.wrap .i64 (n0 - (1 : Int))) < (43 : Int))) <|
   T.loads ((⟨0, 0, none⟩ : Addr).add ((Int.toNat (IntKind.wrap .i64 (n0 - (1 : Int)))) * 3)) [.string, .int .u8, .int .i64] <| fun (s2 : ByteArray) (n3 : Int) (n4 : Int) =>
   T.stores a1 [.string s2, .int .u8 n3, .int .i64 n4] <|
   T.loads a1 [.string, .int .u8, .int .i64] <| fun (s5 : ByteArray) (n6 : Int) (n7 : Int) =>
   T.ret (.tuple #[.agg #[.string s5, .int .u8 n6, .int .i64 n7], .bool true])))
theorem t_isa_At_eq (n0 : Int) : xfun Tryz.prog [] Tryz.f91 [.int .i64 n0] = t_isa_At n0 := by kernel_rfl

/-- The tree of 53. -/
def t_isa_Spans (n0 : Int) : T :=
 T.call Tryz.prog 91 [.int .i64 n0] true [(true, [.string, .int .u8, .int .i64]), (false, [.bool])] <| fun (s1 : ByteArray) (n2 : Int) (n3 : Int) (b4 : Bool) =>
 T.new [.string ⟨#[]⟩, .int .u8 (0 : Int), .int .i64 (0 : Int)] 155 <| fun (a5 : Addr) =>
 T.stores a5 [.string s1, .int .u8 n2, .int .i64 n3] <|
 T.loads (a5.add 2) [.int .i64] <| fun (n6 : Int) =>
 cond (n6 == (12 : Int))
  (T.ret (.bool true))
  (T.loads (a5.add 2) [.int .i64] <| fun (n7 : Int) =>
  T.ret (.bool (n7 == (13 : Int))))
theorem t_isa_Spans_eq (n0 : Int) : xfun Tryz.prog [] Tryz.f92 [.int .i64 n0] = t_isa_Spans n0 := by kernel_rfl

/-- The tree of 54. -/
def t_object_reader__number (p0 : Option Addr) (n1 : Int) : T :=
 T.osome p0 <| fun (a2 : Addr) =>
 T.loads (a2.add 2) [.pointer 59] <| fun (p3 : Option Addr) =>
 cond (!(/-?Option.isSome.match_1-/ match p3 with
 | some val => false
 | none => true))
  (T.ret (.int .u32 (0 : Int)))
  (T.osome p0 <| fun (a4 : Addr) =>
  T.loads a4 [.slice 5] <| fun (p5 : Option Addr) (l6 : Nat) (l7 : Nat) =>
  T.osome p0 <| fun (a8 : Addr) =>
  T.loads (a8.add 1) [.int .i64] <| fun (n9 : Int) =>
  T.call Tryz.prog 96 [.slice p5 l6 l7, .int .i64 n9, .int .i64 n1] true [(false, [.int .u32]), (false, [.int .i64])] <| fun (n10 : Int) (n11 : Int) =>
  cond (n11 != (0 : Int))
   (T.osome p0 <| fun (a12 : Addr) =>
   T.loads a12 [.slice 5] <| fun (p13 : Option Addr) (l14 : Nat) (l15 : Nat) =>
   T.call Tryz.prog 49 [.pointer p0, .int .i64 (l14 : Int), .int .i64 (10 : Int)] true [] <| T.ret (.int .u32 (0 : Int)))
   (T.osome p0 <| fun (a12 : Addr) =>
   T.loads (a12.add 1) [.int .i64] <| fun (n13 : Int) =>
   T.osome p0 <| fun (a14 : Addr) =>
   T.stores (a14.add 1) [.int .i64 (IntKind.wrap .i64 (n13 + n1))] <|
   T.ret (.int .u32 n10)))
theorem t_object_reader__number_eq (p0 : Option Addr) (n1 : Int) : xfun Tryz.prog [] Tryz.f81 [.pointer p0, .int .i64 n1] = t_object_reader__number p0 n1 := by kernel_rfl

/-- The tree of 56. -/
def t_octet_Signed (n0 : Int) (n1 : Int) : T :=
 T.call Tryz.prog 97 [.int .i64 n1] false [(false, [.bool])] <| fun (b2 : Bool) =>
 cond (!b2)
  (T.ret (.int .i32 (0 : Int)))
  (T.need ((0 : Int) ≤ (IntKind.wrap .i64 ((32 : Int) - (IntKind.wrap .i64 ((8 : Int) * n1))))) <|
  T.need ((0 : Int) ≤ (IntKind.wrap .i64 ((32 : Int) - (IntKind.wrap .i64 ((8 : Int) * n1))))) <|
  T.ret (.int .i32 (Int.fdiv (IntKind.wrap .i32 (IntKind.wrap .u32 (n0 * ((2 : Int) ^ (/-?Min.min-/ min (IntKind.i64.wrap (32 - IntKind.i64.wrap (8 * n1))).toNat IntKind.u32.bits))))) ((2 : Int) ^ (/-?Min.min-/ min (IntKind.i64.wrap (32 - IntKind.i64.wrap (8 * n1))).toNat IntKind.i32.bits)))))
theorem t_octet_Signed_eq (n0 : Int) (n1 : Int) : xfun Tryz.prog [] Tryz.f83 [.int .u32 n0, .int .i64 n1] = t_octet_Signed n0 n1 := by kernel_rfl

/-- The tree of 57. -/
def t_octet_GetText (pp00 : Option Addr) (ll00 cc00 : Nat) (n1 : Int) (n2 : Int) : T :=
 T.call Tryz.prog 96 [.slice pp00 ll00 cc00, .int .i64 n1, .int .i64 (2 : Int)] true [(false, [.int .u32]), (false, [.int .i64])] <| fun (n3 : Int) (n4 : Int) =>
 cond (n4 != (0 : Int))
  (T.ret (.tuple #[.string ⟨#[]⟩, .int .i64 (0 : Int), .int .i64 n4]))
  (cond (decide ((IntKind.wrap .i64 n3) > n2))
   (T.ret (.tuple #[.string ⟨#[]⟩, .int .i64 (0 : Int), .int .i64 (3 : Int)]))
   (cond (decide ((IntKind.wrap .i64 n3) > (IntKind.wrap .i64 ((ll00 : Int) - (IntKind.wrap .i64 (n1 + (2 : Int)))))))
    (T.ret (.tuple #[.string ⟨#[]⟩, .int .i64 (0 : Int), .int .i64 (10 : Int)]))
    (T.need (((0 : Int) ≤ (IntKind.wrap .i64 (n1 + (2 : Int)))) ∧ (((IntKind.wrap .i64 (n1 + (2 : Int))) ≤ (IntKind.wrap .i64 ((IntKind.wrap .i64 (n1 + (2 : Int))) + (IntKind.wrap .i64 n3)))) ∧ ((IntKind.wrap .i64 ((IntKind.wrap .i64 (n1 + (2 : Int))) + (IntKind.wrap .i64 n3))) ≤ (cc00 : Int)))) <|
    T.sem Tryz.prog (convert 22 9 (.slice (if (cc00 = (Int.toNat (IntKind.wrap .i64 (n1 + (2 : Int))))) then pp00 else (Option.map (fun a => Addr.add a ((Int.toNat (IntKind.wrap .i64 (n1 + (2 : Int)))) * 1)) pp00)) ((Int.toNat (IntKind.wrap .i64 ((IntKind.wrap .i64 (n1 + (2 : Int))) + (IntKind.wrap .i64 n3)))) - (Int.toNat (IntKind.wrap .i64 (n1 + (2 : Int))))) (cc00 - (Int.toNat (IntKind.wrap .i64 (n1 + (2 : Int))))))) false [(false, [.string])] <| fun (s5 : ByteArray) =>
    T.ret (.tuple #[.string s5, .int .i64 (IntKind.wrap .i64 ((IntKind.wrap .i64 (n1 + (2 : Int))) + (IntKind.wrap .i64 n3))), .int .i64 (0 : Int)]))))
theorem t_octet_GetText_eq (pp00 : Option Addr) (ll00 cc00 : Nat) (n1 : Int) (n2 : Int) : xfun Tryz.prog [] Tryz.f84 [.slice pp00 ll00 cc00, .int .i64 n1, .int .i64 n2] = t_octet_GetText pp00 ll00 cc00 n1 n2 := by kernel_rfl

/-- The tree of 62. -/
def t_octet_Get (pp00 : Option Addr) (ll00 cc00 : Nat) (n1 : Int) (n2 : Int) : T :=
 T.call Tryz.prog 97 [.int .i64 n2] false [(false, [.bool])] <| fun (b3 : Bool) =>
 cond (!b3)
  (T.ret (.tuple #[.int .u32 (0 : Int), .int .i64 (1 : Int)]))
  (cond (decide (n1 < (0 : Int)))
   (T.ret (.tuple #[.int .u32 (0 : Int), .int .i64 (1 : Int)]))
   (cond (decide (n1 > (ll00 : Int)))
    (T.ret (.tuple #[.int .u32 (0 : Int), .int .i64 (1 : Int)]))
    (cond (decide ((IntKind.wrap .i64 ((ll00 : Int) - n1)) < n2))
     (T.ret (.tuple #[.int .u32 (0 : Int), .int .i64 (10 : Int)]))
     (T.loop [(false, [.int .u32]), (false, [.int .i64])] [.int .u32 (0 : Int), .int .i64 (IntKind.wrap .i64 (n2 - (1 : Int)))] <| fun (n4 : Int) (n5 : Int) =>
     cond (decide (n5 ≥ (0 : Int)))
      (T.need ((0 : Int) ≤ (8 : Int)) <|
      T.need (((0 : Int) ≤ (IntKind.wrap .i64 (n1 + n5))) ∧ ((IntKind.wrap .i64 (n1 + n5)) < (ll00 : Int))) <|
      T.osome pp00 <| fun (a6 : Addr) =>
      T.loads (a6.add ((Int.toNat (IntKind.wrap .i64 (n1 + n5))) * 1)) [.int .u8] <| fun (n7 : Int) =>
      T.again 0 [.int .u32 (IntKind.wrap .u32 (((BitVec.toNat ((BitVec.ofInt 32 (IntKind.wrap .u32 (n4 * (256 : Int)))) ||| (BitVec.ofInt 32 (IntKind.wrap .u32 n7)))) : Nat) : Int)), .int .i64 (IntKind.wrap .i64 (n5 - (1 : Int)))])
      (T.ret (.tuple #[.int .u32 n4, .int .i64 (0 : Int)]))))))
theorem t_octet_Get_eq (pp00 : Option Addr) (ll00 cc00 : Nat) (n1 : Int) (n2 : Int) : xfun Tryz.prog [] Tryz.f96 [.slice pp00 ll00 cc00, .int .i64 n1, .int .i64 n2] = t_octet_Get pp00 ll00 cc00 n1 n2 := by kernel_rfl

/-- The tree of 63. -/
def t_octet_legal (n0 : Int) : T :=
 cond (n0 == (1 : Int))
  (T.ret (.bool true))
  (cond (n0 == (2 : Int))
   (T.ret (.bool true))
   (T.ret (.bool (n0 == (4 : Int)))))
theorem t_octet_legal_eq (n0 : Int) : xfun Tryz.prog [] Tryz.f97 [.int .i64 n0] = t_octet_legal n0 := by kernel_rfl

/-- The tree of 40. -/
def t_object_reader__text (p0 : Option Addr) : T :=
 T.osome p0 <| fun (a1 : Addr) =>
 T.loads (a1.add 2) [.pointer 59] <| fun (p2 : Option Addr) =>
 cond (!(/-?Option.isSome.match_1-/ match p2 with
 | some val => false
 | none => true))
  (T.ret (.string ⟨#[]⟩))
  (T.osome p0 <| fun (a3 : Addr) =>
  T.loads a3 [.slice 5] <| fun (p4 : Option Addr) (l5 : Nat) (l6 : Nat) =>
  T.osome p0 <| fun (a7 : Addr) =>
  T.loads (a7.add 1) [.int .i64] <| fun (n8 : Int) =>
  T.call Tryz.prog 84 [.slice p4 l5 l6, .int .i64 n8, .int .i64 (65535 : Int)] true [(false, [.string]), (false, [.int .i64]), (false, [.int .i64])] <| fun (s9 : ByteArray) (n10 : Int) (n11 : Int) =>
  cond (n11 != (0 : Int))
   (T.osome p0 <| fun (a12 : Addr) =>
   T.loads a12 [.slice 5] <| fun (p13 : Option Addr) (l14 : Nat) (l15 : Nat) =>
   T.call Tryz.prog 49 [.pointer p0, .int .i64 (l14 : Int), .int .i64 (10 : Int)] true [] <| T.ret (.string ⟨#[]⟩))
   (T.osome p0 <| fun (a12 : Addr) =>
   T.stores (a12.add 1) [.int .i64 n10] <|
   T.ret (.string s9)))
theorem t_object_reader__text_eq (p0 : Option Addr) : xfun Tryz.prog [] Tryz.f58 [.pointer p0] = t_object_reader__text p0 := by kernel_rfl

/-- The tree of 55. -/
def t_object_reader__lin (p0 : Option Addr) : T :=
 T.new [.slice none 0 0, .int .u32 (0 : Int)] 75 <| fun (a1 : Addr) =>
 T.new [.slice none 0 0, .int .u32 (0 : Int)] 75 <| fun (a2 : Addr) =>
 T.call Tryz.prog 81 [.pointer p0, .int .i64 (2 : Int)] false [(false, [.int .u32])] <| fun (n3 : Int) =>
 T.loop [(false, [.int .u32])] [.int .u32 n3] <| fun (n4 : Int) =>
 cond (decide (n4 > (0 : Int)))
  (T.osome p0 <| fun (a5 : Addr) =>
  T.loads (a5.add 2) [.pointer 59] <| fun (p6 : Option Addr) =>
  cond (/-?Option.isSome.match_1-/ match p6 with
  | some val => false
  | none => true)
   (T.call Tryz.prog 58 [.pointer p0] false [(false, [.string])] <| fun (s7 : ByteArray) =>
   T.loads a2 [.slice 104] <| fun (p8 : Option Addr) (l9 : Nat) (l10 : Nat) =>
   T.call Tryz.prog 81 [.pointer p0, .int .i64 (4 : Int)] false [(false, [.int .u32])] <| fun (n11 : Int) =>
   T.stable [(a2, [.slice p8 l9 l10])] <|
   T.sem Tryz.prog (Instr.buildSlice 73 1 #[(0, .agg #[.string s7, .int .u32 n11])]) false [(false, [.slice 0])] <| fun (p12 : Option Addr) (l13 : Nat) (l14 : Nat) =>
   T.stable [(a2, [.slice p8 l9 l10])] <|
   T.sem Tryz.prog (Builtin.append_ #[73, 73] 73 #[.slice p8 l9 l10, .slice p12 l13 l14]) false [(false, [.slice 0])] <| fun (p15 : Option Addr) (l16 : Nat) (l17 : Nat) =>
   T.stores a2 [.slice p15 l16 l17] <|
   T.again 0 [.int .u32 (IntKind.wrap .u32 (n4 - (1 : Int)))])
   (T.call Tryz.prog 81 [.pointer p0, .int .i64 (4 : Int)] false [(false, [.int .u32])] <| fun (n7 : Int) =>
   T.stores (a2.add 1) [.int .u32 n7] <|
   T.loads a2 [.slice 104, .int .u32] <| fun (p8 : Option Addr) (l9 : Nat) (l10 : Nat) (n11 : Int) =>
   T.stores a1 [.slice p8 l9 l10, .int .u32 n11] <|
   T.loads a1 [.slice 104, .int .u32] <| fun (p12 : Option Addr) (l13 : Nat) (l14 : Nat) (n15 : Int) =>
   T.ret (.agg #[.slice p12 l13 l14, .int .u32 n15])))
  (T.call Tryz.prog 81 [.pointer p0, .int .i64 (4 : Int)] false [(false, [.int .u32])] <| fun (n5 : Int) =>
  T.stores (a2.add 1) [.int .u32 n5] <|
  T.loads a2 [.slice 104, .int .u32] <| fun (p6 : Option Addr) (l7 : Nat) (l8 : Nat) (n9 : Int) =>
  T.stores a1 [.slice p6 l7 l8, .int .u32 n9] <|
  T.loads a1 [.slice 104, .int .u32] <| fun (p10 : Option Addr) (l11 : Nat) (l12 : Nat) (n13 : Int) =>
  T.ret (.agg #[.slice p10 l11 l12, .int .u32 n13]))
theorem t_object_reader__lin_eq (p0 : Option Addr) : xfun Tryz.prog [] Tryz.f82 [.pointer p0] = t_object_reader__lin p0 := by kernel_rfl

/-- The tree of 31. -/
def t_object_reader__refuse (p0 : Option Addr) (n1 : Int) (n2 : Int) : T :=
 T.osome p0 <| fun (a3 : Addr) =>
 T.loads (a3.add 2) [.pointer 59] <| fun (p4 : Option Addr) =>
 cond (/-?Option.isSome.match_1-/ match p4 with
 | some val => false
 | none => true)
  (T.new [.int .i64 n1, .int .i64 n2] 59 <| fun (a5 : Addr) =>
  T.osome p0 <| fun (a6 : Addr) =>
  T.stores (a6.add 2) [.pointer (some a5)] <|
  T.ret (.tuple #[]))
  (T.ret (.tuple #[]))
theorem t_object_reader__refuse_eq (p0 : Option Addr) (n1 : Int) (n2 : Int) : xfun Tryz.prog [] Tryz.f49 [.pointer p0, .int .i64 n1, .int .i64 n2] = t_object_reader__refuse p0 n1 n2 := by kernel_rfl

/-- The tree of 30. -/
def t_object_wants (n0 : Int) : T :=
 T.call Tryz.prog 91 [.int .i64 n0] true [(true, [.string, .int .u8, .int .i64]), (false, [.bool])] <| fun (s1 : ByteArray) (n2 : Int) (n3 : Int) (b4 : Bool) =>
 T.new [.string ⟨#[]⟩, .int .u8 (0 : Int), .int .i64 (0 : Int)] 155 <| fun (a5 : Addr) =>
 T.stores a5 [.string s1, .int .u8 n2, .int .i64 n3] <|
 T.loads (a5.add 2) [.int .i64] <| fun (n6 : Int) =>
 cond (n6 == (10 : Int))
  (T.ret (.bool true))
  (T.loads (a5.add 2) [.int .i64] <| fun (n7 : Int) =>
  cond (n7 == (11 : Int))
   (T.ret (.bool true))
   (T.call Tryz.prog 92 [.int .i64 n0] false [(false, [.bool])] <| fun (b8 : Bool) =>
   T.ret (.bool b8)))
theorem t_object_wants_eq (n0 : Int) : xfun Tryz.prog [] Tryz.f71 [.int .i64 n0] = t_object_wants n0 := by kernel_rfl

/-- The tree of 72. -/
def t_isa_below (n0 : Int) (n1 : Int) : T :=
 cond (decide (n0 ≥ (0 : Int)))
  (T.ret (.bool (decide (n0 < n1))))
  (T.ret (.bool false))
theorem t_isa_below_eq (n0 : Int) (n1 : Int) : xfun Tryz.prog [] Tryz.f115 [.int .i64 n0, .int .i64 n1] = t_isa_below n0 n1 := by kernel_rfl

/-- The tree of 73. -/
def t_isa_Reaches (n0 : Int) (n1 : Int) : T :=
 cond (n1 == (1 : Int))
  (T.ret (.bool (n0 == (IntKind.wrap .i32 (IntKind.wrap .i8 n0)))))
  (cond (n1 == (2 : Int))
   (T.ret (.bool (n0 == (IntKind.wrap .i32 (IntKind.wrap .i16 n0)))))
   (T.ret (.bool (n1 == (4 : Int)))))
theorem t_isa_Reaches_eq (n0 : Int) (n1 : Int) : xfun Tryz.prog [] Tryz.f116 [.int .i32 n0, .int .i64 n1] = t_isa_Reaches n0 n1 := by kernel_rfl

/-- The tree of 59. -/
def t_isa_Check (n0 : Int) (n1_0 : Int) (n2_0 : Int) (n3_0 : Int) (n4_0 : Int) : T :=
 T.new [.int .i64 n0, .int .i64 n1_0, .int .i64 n2_0, .int .i32 n3_0, .int .i64 n4_0] 100 <| fun (a1 : Addr) =>
 T.loads a1 [.int .i64] <| fun (n2 : Int) =>
 T.call Tryz.prog 91 [.int .i64 n2] true [(true, [.string, .int .u8, .int .i64]), (false, [.bool])] <| fun (s3 : ByteArray) (n4 : Int) (n5 : Int) (b6 : Bool) =>
 T.new [.string ⟨#[]⟩, .int .u8 (0 : Int), .int .i64 (0 : Int)] 155 <| fun (a7 : Addr) =>
 T.stores a7 [.string s3, .int .u8 n4, .int .i64 n5] <|
 cond (!b6)
  (T.ret (.int .i64 (11 : Int)))
  (T.loads a1 [.int .i64, .int .i64, .int .i64, .int .i32, .int .i64] <| fun (n8 : Int) (n9 : Int) (n10 : Int) (n11 : Int) (n12 : Int) =>
  T.loads (a7.add 2) [.int .i64] <| fun (n13 : Int) =>
  T.call Tryz.prog 107 [.agg #[.int .i64 n8, .int .i64 n9, .int .i64 n10, .int .i32 n11, .int .i64 n12], .int .i64 n13] false [(false, [.bool])] <| fun (b14 : Bool) =>
  cond (!b14)
   (T.ret (.int .i64 (12 : Int)))
   (T.loads a1 [.int .i64] <| fun (n15 : Int) =>
   T.call Tryz.prog 92 [.int .i64 n15] false [(false, [.bool])] <| fun (b16 : Bool) =>
   cond (!b16)
    (T.loads (a1.add 4) [.int .i64] <| fun (n17 : Int) =>
    cond (n17 != (0 : Int))
     (T.ret (.int .i64 (13 : Int)))
     (T.loads a1 [.int .i64, .int .i64, .int .i64, .int .i32, .int .i64] <| fun (n18 : Int) (n19 : Int) (n20 : Int) (n21 : Int) (n22 : Int) =>
     T.loads (a7.add 2) [.int .i64] <| fun (n23 : Int) =>
     T.call Tryz.prog 108 [.agg #[.int .i64 n18, .int .i64 n19, .int .i64 n20, .int .i32 n21, .int .i64 n22], .int .i64 n23] false [(false, [.bool])] <| fun (b24 : Bool) =>
     cond (!b24)
      (T.ret (.int .i64 (13 : Int)))
      (T.ret (.int .i64 (0 : Int)))))
    (T.loads a1 [.int .i64, .int .i64, .int .i64, .int .i32, .int .i64] <| fun (n17 : Int) (n18 : Int) (n19 : Int) (n20 : Int) (n21 : Int) =>
    T.loads (a7.add 2) [.int .i64] <| fun (n22 : Int) =>
    T.call Tryz.prog 108 [.agg #[.int .i64 n17, .int .i64 n18, .int .i64 n19, .int .i32 n20, .int .i64 n21], .int .i64 n22] false [(false, [.bool])] <| fun (b23 : Bool) =>
    cond (!b23)
     (T.ret (.int .i64 (13 : Int)))
     (T.ret (.int .i64 (0 : Int))))))
theorem t_isa_Check_eq (n0 : Int) (n1_0 : Int) (n2_0 : Int) (n3_0 : Int) (n4_0 : Int) : xfun Tryz.prog [] Tryz.f99 [.agg #[.int .i64 n0, .int .i64 n1_0, .int .i64 n2_0, .int .i32 n3_0, .int .i64 n4_0]] = t_isa_Check n0 n1_0 n2_0 n3_0 n4_0 := by kernel_rfl

/-- The tree of 48. -/
def t_item_power (n0 : Int) : T :=
 cond (decide (n0 ≥ (1 : Int)))
  (cond (decide (n0 ≤ (256 : Int)))
   (T.ret (.bool ((IntKind.wrap .i64 (((BitVec.toNat ((BitVec.ofInt 64 n0) &&& (BitVec.ofInt 64 (IntKind.wrap .i64 (n0 - (1 : Int)))))) : Nat) : Int)) == (0 : Int))))
   (T.ret (.bool false)))
  (T.ret (.bool false))
theorem t_item_power_eq (n0 : Int) : xfun Tryz.prog [] Tryz.f87 [.int .i64 n0] = t_item_power n0 := by kernel_rfl

/-- The tree of 47. -/
def t_item_instruction (n0 : Int) (s1_0 : ByteArray) (n2_0 : Int) (n3_0 : Int) (n4_0 : Int) (n5_0 : Int) (n6_0 : Int) (pp07 : Option Addr) (ll07 cc07 : Nat) (n8_0 : Int) (n9_0 : Int) : T :=
 T.new [.int .i64 n0, .string s1_0, .int .i64 n2_0, .int .i64 n3_0, .int .i64 n4_0, .int .i32 n5_0, .int .i64 n6_0, .slice pp07 ll07 cc07, .int .u32 n8_0, .int .i64 n9_0] 102 <| fun (a1 : Addr) =>
 T.loads (a1.add 2) [.int .i64] <| fun (n2 : Int) =>
 T.call Tryz.prog 91 [.int .i64 n2] true [(true, [.string, .int .u8, .int .i64]), (false, [.bool])] <| fun (s3 : ByteArray) (n4 : Int) (n5 : Int) (b6 : Bool) =>
 T.new [.string ⟨#[]⟩, .int .u8 (0 : Int), .int .i64 (0 : Int)] 155 <| fun (a7 : Addr) =>
 T.stores a7 [.string s3, .int .u8 n4, .int .i64 n5] <|
 cond (!b6)
  (T.ret (.bool false))
  (T.loads ((a1.add 2).add 4) [.int .i64] <| fun (n8 : Int) =>
  cond (n8 != (0 : Int))
   (T.ret (.bool false))
   (T.loads (a1.add 2) [.int .i64, .int .i64, .int .i64, .int .i32, .int .i64] <| fun (n9 : Int) (n10 : Int) (n11 : Int) (n12 : Int) (n13 : Int) =>
   T.new [.int .i64 (0 : Int), .int .i64 (0 : Int), .int .i64 (0 : Int), .int .i32 (0 : Int), .int .i64 (0 : Int)] 100 <| fun (a14 : Addr) =>
   T.stores a14 [.int .i64 n9, .int .i64 n10, .int .i64 n11, .int .i32 n12, .int .i64 n13] <|
   T.loads (a7.add 2) [.int .i64] <| fun (n15 : Int) =>
   cond (n15 == (12 : Int))
    (cond (n15 == (12 : Int))
     (T.stores (a14.add 4) [.int .i64 (1 : Int)] <|
     T.loads ((a1.add 2).add 3) [.int .i32] <| fun (n16 : Int) =>
     cond (n16 == (0 : Int))
      (T.loads a14 [.int .i64, .int .i64, .int .i64, .int .i32, .int .i64] <| fun (n17 : Int) (n18 : Int) (n19 : Int) (n20 : Int) (n21 : Int) =>
      T.call Tryz.prog 99 [.agg #[.int .i64 n17, .int .i64 n18, .int .i64 n19, .int .i32 n20, .int .i64 n21]] false [(false, [.int .i64])] <| fun (n22 : Int) =>
      cond (n22 == (0 : Int))
       (T.loads (a1.add 7) [.slice 104, .int .u32] <| fun (p23 : Option Addr) (l24 : Nat) (l25 : Nat) (n26 : Int) =>
       T.call Tryz.prog 70 [.agg #[.slice p23 l24 l25, .int .u32 n26]] false [(false, [.bool])] <| fun (b27 : Bool) =>
       T.ret (.bool b27))
       (T.ret (.bool false)))
      (T.ret (.bool false)))
     (cond (n15 == (10 : Int))
      (cond (n15 == (10 : Int))
       (T.loads ((a1.add 2).add 3) [.int .i32] <| fun (n16 : Int) =>
       cond (n16 == (0 : Int))
        (T.loads a14 [.int .i64, .int .i64, .int .i64, .int .i32, .int .i64] <| fun (n17 : Int) (n18 : Int) (n19 : Int) (n20 : Int) (n21 : Int) =>
        T.call Tryz.prog 99 [.agg #[.int .i64 n17, .int .i64 n18, .int .i64 n19, .int .i32 n20, .int .i64 n21]] false [(false, [.int .i64])] <| fun (n22 : Int) =>
        cond (n22 == (0 : Int))
         (T.loads (a1.add 7) [.slice 104, .int .u32] <| fun (p23 : Option Addr) (l24 : Nat) (l25 : Nat) (n26 : Int) =>
         T.call Tryz.prog 70 [.agg #[.slice p23 l24 l25, .int .u32 n26]] false [(false, [.bool])] <| fun (b27 : Bool) =>
         T.ret (.bool b27))
         (T.ret (.bool false)))
        (T.ret (.bool false)))
       (T.loads a14 [.int .i64, .int .i64, .int .i64, .int .i32, .int .i64] <| fun (n16 : Int) (n17 : Int) (n18 : Int) (n19 : Int) (n20 : Int) =>
       T.call Tryz.prog 99 [.agg #[.int .i64 n16, .int .i64 n17, .int .i64 n18, .int .i32 n19, .int .i64 n20]] false [(false, [.int .i64])] <| fun (n21 : Int) =>
       cond (n21 == (0 : Int))
        (T.loads (a1.add 7) [.slice 104, .int .u32] <| fun (p22 : Option Addr) (l23 : Nat) (l24 : Nat) (n25 : Int) =>
        T.call Tryz.prog 88 [.agg #[.slice p22 l23 l24, .int .u32 n25], .agg #[.slice none 0 0, .int .u32 (0 : Int)]] false [(false, [.bool])] <| fun (b26 : Bool) =>
        T.ret (.bool b26))
        (T.ret (.bool false))))
      (cond (n15 == (11 : Int))
       (T.loads ((a1.add 2).add 3) [.int .i32] <| fun (n16 : Int) =>
       cond (n16 == (0 : Int))
        (T.loads a14 [.int .i64, .int .i64, .int .i64, .int .i32, .int .i64] <| fun (n17 : Int) (n18 : Int) (n19 : Int) (n20 : Int) (n21 : Int) =>
        T.call Tryz.prog 99 [.agg #[.int .i64 n17, .int .i64 n18, .int .i64 n19, .int .i32 n20, .int .i64 n21]] false [(false, [.int .i64])] <| fun (n22 : Int) =>
        cond (n22 == (0 : Int))
         (T.loads (a1.add 7) [.slice 104, .int .u32] <| fun (p23 : Option Addr) (l24 : Nat) (l25 : Nat) (n26 : Int) =>
         T.call Tryz.prog 70 [.agg #[.slice p23 l24 l25, .int .u32 n26]] false [(false, [.bool])] <| fun (b27 : Bool) =>
         T.ret (.bool b27))
         (T.ret (.bool false)))
        (T.ret (.bool false)))
       (T.loads a14 [.int .i64, .int .i64, .int .i64, .int .i32, .int .i64] <| fun (n16 : Int) (n17 : Int) (n18 : Int) (n19 : Int) (n20 : Int) =>
       T.call Tryz.prog 99 [.agg #[.int .i64 n16, .int .i64 n17, .int .i64 n18, .int .i32 n19, .int .i64 n20]] false [(false, [.int .i64])] <| fun (n21 : Int) =>
       cond (n21 == (0 : Int))
        (T.loads (a1.add 7) [.slice 104, .int .u32] <| fun (p22 : Option Addr) (l23 : Nat) (l24 : Nat) (n25 : Int) =>
        T.call Tryz.prog 88 [.agg #[.slice p22 l23 l24, .int .u32 n25], .agg #[.slice none 0 0, .int .u32 (0 : Int)]] false [(false, [.bool])] <| fun (b26 : Bool) =>
        T.ret (.bool b26))
        (T.ret (.bool false))))))
    (cond (n15 == (13 : Int))
     (T.stores (a14.add 4) [.int .i64 (1 : Int)] <|
     T.loads ((a1.add 2).add 3) [.int .i32] <| fun (n16 : Int) =>
     cond (n16 == (0 : Int))
      (T.loads a14 [.int .i64, .int .i64, .int .i64, .int .i32, .int .i64] <| fun (n17 : Int) (n18 : Int) (n19 : Int) (n20 : Int) (n21 : Int) =>
      T.call Tryz.prog 99 [.agg #[.int .i64 n17, .int .i64 n18, .int .i64 n19, .int .i32 n20, .int .i64 n21]] false [(false, [.int .i64])] <| fun (n22 : Int) =>
      cond (n22 == (0 : Int))
       (T.loads (a1.add 7) [.slice 104, .int .u32] <| fun (p23 : Option Addr) (l24 : Nat) (l25 : Nat) (n26 : Int) =>
       T.call Tryz.prog 70 [.agg #[.slice p23 l24 l25, .int .u32 n26]] false [(false, [.bool])] <| fun (b27 : Bool) =>
       T.ret (.bool b27))
       (T.ret (.bool false)))
      (T.ret (.bool false)))
     (cond (n15 == (10 : Int))
      (cond (n15 == (10 : Int))
       (T.loads ((a1.add 2).add 3) [.int .i32] <| fun (n16 : Int) =>
       cond (n16 == (0 : Int))
        (T.loads a14 [.int .i64, .int .i64, .int .i64, .int .i32, .int .i64] <| fun (n17 : Int) (n18 : Int) (n19 : Int) (n20 : Int) (n21 : Int) =>
        T.call Tryz.prog 99 [.agg #[.int .i64 n17, .int .i64 n18, .int .i64 n19, .int .i32 n20, .int .i64 n21]] false [(false, [.int .i64])] <| fun (n22 : Int) =>
        cond (n22 == (0 : Int))
         (T.loads (a1.add 7) [.slice 104, .int .u32] <| fun (p23 : Option Addr) (l24 : Nat) (l25 : Nat) (n26 : Int) =>
         T.call Tryz.prog 70 [.agg #[.slice p23 l24 l25, .int .u32 n26]] false [(false, [.bool])] <| fun (b27 : Bool) =>
         T.ret (.bool b27))
         (T.ret (.bool false)))
        (T.ret (.bool false)))
       (T.loads a14 [.int .i64, .int .i64, .int .i64, .int .i32, .int .i64] <| fun (n16 : Int) (n17 : Int) (n18 : Int) (n19 : Int) (n20 : Int) =>
       T.call Tryz.prog 99 [.agg #[.int .i64 n16, .int .i64 n17, .int .i64 n18, .int .i32 n19, .int .i64 n20]] false [(false, [.int .i64])] <| fun (n21 : Int) =>
       cond (n21 == (0 : Int))
        (T.loads (a1.add 7) [.slice 104, .int .u32] <| fun (p22 : Option Addr) (l23 : Nat) (l24 : Nat) (n25 : Int) =>
        T.call Tryz.prog 88 [.agg #[.slice p22 l23 l24, .int .u32 n25], .agg #[.slice none 0 0, .int .u32 (0 : Int)]] false [(false, [.bool])] <| fun (b26 : Bool) =>
        T.ret (.bool b26))
        (T.ret (.bool false))))
      (cond (n15 == (11 : Int))
       (T.loads ((a1.add 2).add 3) [.int .i32] <| fun (n16 : Int) =>
       cond (n16 == (0 : Int))
        (T.loads a14 [.int .i64, .int .i64, .int .i64, .int .i32, .int .i64] <| fun (n17 : Int) (n18 : Int) (n19 : Int) (n20 : Int) (n21 : Int) =>
        T.call Tryz.prog 99 [.agg #[.int .i64 n17, .int .i64 n18, .int .i64 n19, .int .i32 n20, .int .i64 n21]] false [(false, [.int .i64])] <| fun (n22 : Int) =>
        cond (n22 == (0 : Int))
         (T.loads (a1.add 7) [.slice 104, .int .u32] <| fun (p23 : Option Addr) (l24 : Nat) (l25 : Nat) (n26 : Int) =>
         T.call Tryz.prog 70 [.agg #[.slice p23 l24 l25, .int .u32 n26]] false [(false, [.bool])] <| fun (b27 : Bool) =>
         T.ret (.bool b27))
         (T.ret (.bool false)))
        (T.ret (.bool false)))
       (T.loads a14 [.int .i64, .int .i64, .int .i64, .int .i32, .int .i64] <| fun (n16 : Int) (n17 : Int) (n18 : Int) (n19 : Int) (n20 : Int) =>
       T.call Tryz.prog 99 [.agg #[.int .i64 n16, .int .i64 n17, .int .i64 n18, .int .i32 n19, .int .i64 n20]] false [(false, [.int .i64])] <| fun (n21 : Int) =>
       cond (n21 == (0 : Int))
        (T.loads (a1.add 7) [.slice 104, .int .u32] <| fun (p22 : Option Addr) (l23 : Nat) (l24 : Nat) (n25 : Int) =>
        T.call Tryz.prog 88 [.agg #[.slice p22 l23 l24, .int .u32 n25], .agg #[.slice none 0 0, .int .u32 (0 : Int)]] false [(false, [.bool])] <| fun (b26 : Bool) =>
        T.ret (.bool b26))
        (T.ret (.bool false))))))))
theorem t_item_instruction_eq (n0 : Int) (s1_0 : ByteArray) (n2_0 : Int) (n3_0 : Int) (n4_0 : Int) (n5_0 : Int) (n6_0 : Int) (pp07 : Option Addr) (ll07 cc07 : Nat) (n8_0 : Int) (n9_0 : Int) : xfun Tryz.prog [] Tryz.f86 [.agg #[.int .i64 n0, .string s1_0, .int .i64 n2_0, .int .i64 n3_0, .int .i64 n4_0, .int .i32 n5_0, .int .i64 n6_0, .slice pp07 ll07 cc07, .int .u32 n8_0, .int .i64 n9_0]] = t_item_instruction n0 s1_0 n2_0 n3_0 n4_0 n5_0 n6_0 pp07 ll07 cc07 n8_0 n9_0 := by kernel_rfl

/-- The tree of 14. -/
def t_unit_Right (pp00 : Option Addr) (ll00 cc00 : Nat) (pp01 : Option Addr) (ll01 cc01 : Nat) (pp02 : Option Addr) (ll02 cc02 : Nat) (pp03 : Option Addr) (ll03 cc03 : Nat) : T :=
 T.new [.slice pp00 ll00 cc00, .slice pp01 ll01 cc01, .slice pp02 ll02 cc02, .slice pp03 ll03 cc03] 28 <| fun (a1 : Addr) =>
 T.loads a1 [.slice 102] <| fun (p2 : Option Addr) (l3 : Nat) (l4 : Nat) =>
 T.loads (a1.add 1) [.slice 102] <| fun (p5 : Option Addr) (l6 : Nat) (l7 : Nat) =>
 cond (decide ((IntKind.wrap .i64 ((l3 : Int) + (l6 : Int))) > (8192 : Int)))
  (T.ret (.int .i64 (4 : Int)))
  (T.loads (a1.add 2) [.slice 78] <| fun (p8 : Option Addr) (l9 : Nat) (l10 : Nat) =>
  cond (decide ((l9 : Int) > (8192 : Int)))
   (T.ret (.int .i64 (4 : Int)))
   (T.sem Tryz.prog (Instr.makeMap 61 none) false [(false, [.map 0 0])] <| fun (r11 : Option Nat) =>
   T.loads a1 [.slice 102] <| fun (p12 : Option Addr) (l13 : Nat) (l14 : Nat) =>
   T.loads (a1.add 1) [.slice 102] <| fun (p15 : Option Addr) (l16 : Nat) (l17 : Nat) =>
   T.sem Tryz.prog (Instr.buildSlice 98 2 #[(0, .slice p12 l13 l14), (1, .slice p15 l16 l17)]) false [(false, [.slice 0])] <| fun (p18 : Option Addr) (l19 : Nat) (l20 : Nat) =>
   T.loop [(false, [.int .i64]), (false, [.int .i64])] [.int .i64 (0 : Int), .int .i64 (0 : Int)] <| fun (n21 : Int) (n22 : Int) =>
   cond (decide (n22 < (l19 : Int)))
    (T.need (((0 : Int) ≤ n22) ∧ (n22 < (l19 : Int))) <|
    T.osome p18 <| fun (a23 : Addr) =>
    T.loads (a23.add ((Int.toNat n22) * 1)) [.slice 102] <| fun (p24 : Option Addr) (l25 : Nat) (l26 : Nat) =>
    T.loop [(false, [.int .i64]), (false, [.int .i64])] [.int .i64 n21, .int .i64 (0 : Int)] <| fun (n27 : Int) (n28 : Int) =>
    cond (decide (n28 < (l25 : Int)))
     (T.need (((0 : Int) ≤ n28) ∧ (n28 < (l25 : Int))) <|
     T.osome p24 <| fun (a29 : Addr) =>
     T.loads (a29.add ((Int.toNat n28) * 10)) [.int .i64, .string, .int .i64, .int .i64, .int .i64, .int .i32, .int .i64, .slice 104, .int .u32, .int .i64] <| fun (n30 : Int) (s31 : ByteArray) (n32 : Int) (n33 : Int) (n34 : Int) (n35 : Int) (n36 : Int) (p37 : Option Addr) (l38 : Nat) (l39 : Nat) (n40 : Int) (n41 : Int) =>
     T.new [.int .i64 (0 : Int), .string ⟨#[]⟩, .int .i64 (0 : Int), .int .i64 (0 : Int), .int .i64 (0 : Int), .int .i32 (0 : Int), .int .i64 (0 : Int), .slice none 0 0, .int .u32 (0 : Int), .int .i64 (0 : Int)] 102 <| fun (a42 : Addr) =>
     T.stores a42 [.int .i64 n30, .string s31, .int .i64 n32, .int .i64 n33, .int .i64 n34, .int .i32 n35, .int .i64 n36, .slice p37 l38 l39, .int .u32 n40, .int .i64 n41] <|
     T.loads a42 [.int .i64, .string, .int .i64, .int .i64, .int .i64, .int .i32, .int .i64, .slice 104, .int .u32, .int .i64] <| fun (n43 : Int) (s44 : ByteArray) (n45 : Int) (n46 : Int) (n47 : Int) (n48 : Int) (n49 : Int) (p50 : Option Addr) (l51 : Nat) (l52 : Nat) (n53 : Int) (n54 : Int) =>
     T.call Tryz.prog 68 [.agg #[.int .i64 n43, .string s44, .int .i64 n45, .int .i64 n46, .int .i64 n47, .int .i32 n48, .int .i64 n49, .slice p50 l51 l52, .int .u32 n53, .int .i64 n54], .int .i64 n22] false [(false, [.int .i64])] <| fun (n55 : Int) =>
     cond (n55 != (0 : Int))
      (T.ret (.int .i64 (31 : Int)))
      (T.loads a42 [.int .i64] <| fun (n56 : Int) =>
      cond (n56 == (1 : Int))
       (T.loads (a42.add 1) [.string] <| fun (s57 : ByteArray) =>
       T.sem Tryz.prog (Instr.lookup 61 (.map r11) (.string s57) false) false [(false, [.bool])] <| fun (b58 : Bool) =>
       cond b58
        (T.ret (.int .i64 (31 : Int)))
        (T.loads a42 [.int .i64] <| fun (n59 : Int) =>
        cond (n59 == (1 : Int))
         (T.loads (a42.add 1) [.string] <| fun (s60 : ByteArray) =>
         T.semU Tryz.prog (Instr.mapUpdate 61 (.map r11) (.string s60) (.bool true)) <|
         T.again 1 [.int .i64 n27, .int .i64 (IntKind.wrap .i64 (n28 + (1 : Int)))])
         (T.again 1 [.int .i64 n27, .int .i64 (IntKind.wrap .i64 (n28 + (1 : Int)))])))
       (T.loads a42 [.int .i64] <| fun (n57 : Int) =>
       cond (n57 == (1 : Int))
        (T.loads (a42.add 1) [.string] <| fun (s58 : ByteArray) =>
        T.semU Tryz.prog (Instr.mapUpdate 61 (.map r11) (.string s58) (.bool true)) <|
        T.again 1 [.int .i64 n27, .int .i64 (IntKind.wrap .i64 (n28 + (1 : Int)))])
        (T.again 1 [.int .i64 n27, .int .i64 (IntKind.wrap .i64 (n28 + (1 : Int)))]))))
     (T.again 0 [.int .i64 n27, .int .i64 (IntKind.wrap .i64 (n22 + (1 : Int)))]))
    (T.loads (a1.add 2) [.slice 78] <| fun (p23 : Option Addr) (l24 : Nat) (l25 : Nat) =>
    T.loop [(false, [.int .i64]), (false, [.int .i64])] [.int .i64 n21, .int .i64 (0 : Int)] <| fun (n26 : Int) (n27 : Int) =>
    cond (decide (n27 < (l24 : Int)))
     (T.need (((0 : Int) ≤ n27) ∧ (n27 < (l24 : Int))) <|
     T.osome p23 <| fun (a28 : Addr) =>
     T.loads (a28.add ((Int.toNat n27) * 3)) [.string, .slice 104, .int .u32] <| fun (s29 : ByteArray) (p30 : Option Addr) (l31 : Nat) (l32 : Nat) (n33 : Int) =>
     T.new [.string ⟨#[]⟩, .slice none 0 0, .int .u32 (0 : Int)] 78 <| fun (a34 : Addr) =>
     T.stores a34 [.string s29, .slice p30 l31 l32, .int .u32 n33] <|
     T.loads a34 [.string] <| fun (s35 : ByteArray) =>
     T.sem Tryz.prog (Instr.lookup 61 (.map r11) (.string s35) false) false [(false, [.bool])] <| fun (b36 : Bool) =>
     cond b36
      (T.ret (.int .i64 (31 : Int)))
      (T.loads a34 [.string] <| fun (s37 : ByteArray) =>
      T.call Tryz.prog 69 [.string s37] false [(false, [.bool])] <| fun (b38 : Bool) =>
      cond (!b38)
       (T.ret (.int .i64 (31 : Int)))
       (T.loads (a34.add 1) [.slice 104, .int .u32] <| fun (p39 : Option Addr) (l40 : Nat) (l41 : Nat) (n42 : Int) =>
       T.call Tryz.prog 70 [.agg #[.slice p39 l40 l41, .int .u32 n42]] false [(false, [.bool])] <| fun (b43 : Bool) =>
       cond (!b43)
        (T.ret (.int .i64 (31 : Int)))
        (T.loads a34 [.string] <| fun (s44 : ByteArray) =>
        T.semU Tryz.prog (Instr.mapUpdate 61 (.map r11) (.string s44) (.bool true)) <|
        T.again 1 [.int .i64 n26, .int .i64 (IntKind.wrap .i64 (n27 + (1 : Int)))]))))
     (T.loads (a1.add 3) [.slice 9] <| fun (p28 : Option Addr) (l29 : Nat) (l30 : Nat) =>
     T.loop [(false, [.int .i64]), (false, [.int .i64])] [.int .i64 n26, .int .i64 (0 : Int)] <| fun (n31 : Int) (n32 : Int) =>
     cond (decide (n32 < (l29 : Int)))
      (T.need (((0 : Int) ≤ n32) ∧ (n32 < (l29 : Int))) <|
      T.osome p28 <| fun (a33 : Addr) =>
      T.loads (a33.add ((Int.toNat n32) * 1)) [.string] <| fun (s34 : ByteArray) =>
      T.sem Tryz.prog (Instr.lookup 61 (.map r11) (.string s34) false) false [(false, [.bool])] <| fun (b35 : Bool) =>
      cond (!b35)
       (T.ret (.int .i64 (31 : Int)))
       (cond (decide (n32 > (0 : Int)))
        (T.loads (a1.add 3) [.slice 9] <| fun (p36 : Option Addr) (l37 : Nat) (l38 : Nat) =>
        T.need (((0 : Int) ≤ (IntKind.wrap .i64 (n32 - (1 : Int)))) ∧ ((IntKind.wrap .i64 (n32 - (1 : Int))) < (l37 : Int))) <|
        T.osome p36 <| fun (a39 : Addr) =>
        T.loads (a39.add ((Int.toNat (IntKind.wrap .i64 (n32 - (1 : Int)))) * 1)) [.string] <| fun (s40 : ByteArray) =>
        cond ((Op.bytesLess (ByteArray.toList s34) (ByteArray.toList s40)) || ((ByteArray.toList s34) == (ByteArray.toList s40)))
         (T.ret (.int .i64 (31 : Int)))
         (T.again 2 [.int .i64 n31, .int .i64 (IntKind.wrap .i64 (n32 + (1 : Int)))]))
        (T.again 2 [.int .i64 n31, .int .i64 (IntKind.wrap .i64 (n32 + (1 : Int)))])))
      (T.ret (.int .i64 (0 : Int)))))))
theorem t_unit_Right_eq (pp00 : Option Addr) (ll00 cc00 : Nat) (pp01 : Option Addr) (ll01 cc01 : Nat) (pp02 : Option Addr) (ll02 cc02 : Nat) (pp03 : Option Addr) (ll03 cc03 : Nat) : xfun Tryz.prog [] Tryz.f37 [.agg #[.slice pp00 ll00 cc00, .slice pp01 ll01 cc01, .slice pp02 ll02 cc02, .slice pp03 ll03 cc03]] = t_unit_Right pp00 ll00 cc00 pp01 ll01 cc01 pp02 ll02 cc02 pp03 ll03 cc03 := by kernel_rfl

end Go.Sx
