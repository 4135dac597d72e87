/- The trees of the functions of package lex and of the law LexNames, each checked by the kernel against the code. No condition. -/
import Derived.Test.YtpbjlnlekobodaaDoorSxF
import Derived.Test.YtpbjlnlekobodaaDoorProg
import Derived.KernelRfl
set_option linter.unusedVariables false
set_option linter.unusedSimpArgs false
set_option linter.deprecated false
set_option maxRecDepth 100000
namespace Go.Sx
open Go.Proofs
/-- The tree of 66. -/
def t_strings_IndexByte (s0 : ByteArray) (n1 : Int) : T :=
 T.call Tryd.prog 91 [.string s0, .int .u8 n1] false [(false, [.int .i64])] <| fun (n2 : Int) =>
 T.ret (.int .i64 n2)
theorem t_strings_IndexByte_eq (s0 : ByteArray) (n1 : Int) : xfun Tryd.prog [] Tryd.f66 [.string s0, .int .u8 n1] = t_strings_IndexByte s0 n1 := by kernel_rfl

/-- The tree of 91. -/
def t_internal_stringslite_IndexByte (s0 : ByteArray) (n1 : Int) : T :=
 T.sem Tryd.prog (Sx.extS 106 #[.string s0, .int .u8 n1]) false [(false, [.int .i64])] <| fun (n2 : Int) =>
 T.ret (.int .i64 n2)
theorem t_internal_stringslite_IndexByte_eq (s0 : ByteArray) (n1 : Int) : xfun Tryd.prog [] Tryd.f91 [.string s0, .int .u8 n1] = t_internal_stringslite_IndexByte s0 n1 := by kernel_rfl

/-- The tree of 65. -/
def t_lex_row (s0 : ByteArray) (s1 : ByteArray) : T :=
 T.loop [(false, [.int .i64])] [.int .i64 (0 : Int)] <| fun (n2 : Int) =>
 cond (decide (n2 < (s0.size : Int)))
  (T.need (((0 : Int) ≤ n2) ∧ (n2 < (s0.size : Int))) <|
  T.call Tryd.prog 66 [.string s1, .int .u8 (sbyte s0 n2)] false [(false, [.int .i64])] <| fun (n3 : Int) =>
  cond (decide (n3 ≥ (0 : Int)))
   (T.again 0 [.int .i64 (IntKind.wrap .i64 (n2 + (1 : Int)))])
   (T.ret (.int .i64 n2)))
  (T.ret (.int .i64 n2))
theorem t_lex_row_eq (s0 : ByteArray) (s1 : ByteArray) : xfun Tryd.prog [] Tryd.f65 [.string s0, .string s1] = t_lex_row s0 s1 := by kernel_rfl

/-- The tree of 20. -/
def t_spandrellaw2_few (s0 : ByteArray) (n1 : Int) : T :=
 cond (decide ((s0.size : Int) > n1))
  (T.need (((0 : Int) ≤ (0 : Int)) ∧ (((0 : Int) ≤ n1) ∧ (n1 ≤ (s0.size : Int)))) <|
  T.ret (.string (ByteArray.extract s0 0 (Int.toNat n1))))
  (T.ret (.string s0))
theorem t_spandrellaw2_few_eq (s0 : ByteArray) (n1 : Int) : xfun Tryd.prog [] Tryd.f20 [.string s0, .int .i64 n1] = t_spandrellaw2_few s0 n1 := by kernel_rfl

/-- The tree of 29. -/
def t_lex_Register (s0 : ByteArray) : T :=
 cond ((s0.size : Int) != (2 : Int))
  (T.ret (.tuple #[.int .i64 (0 : Int), .bool false, .bool false]))
  (T.need (((0 : Int) ≤ (1 : Int)) ∧ ((1 : Int) < (s0.size : Int))) <|
  T.need (((0 : Int) ≤ (0 : Int)) ∧ ((0 : Int) < (s0.size : Int))) <|
  cond ((sbyte s0 (0 : Int)) == (114 : Int))
   (cond (decide ((IntKind.wrap .i64 ((IntKind.wrap .i64 (sbyte s0 (1 : Int))) - (48 : Int))) ≥ (0 : Int)))
    (cond (decide ((IntKind.wrap .i64 ((IntKind.wrap .i64 (sbyte s0 (1 : Int))) - (48 : Int))) < (8 : Int)))
     (T.ret (.tuple #[.int .i64 (IntKind.wrap .i64 ((IntKind.wrap .i64 (sbyte s0 (1 : Int))) - (48 : Int))), .bool false, .bool true]))
     (T.need (((0 : Int) ≤ (0 : Int)) ∧ ((0 : Int) < (s0.size : Int))) <|
     cond ((sbyte s0 (0 : Int)) == (122 : Int))
      (cond (decide ((IntKind.wrap .i64 ((IntKind.wrap .i64 (sbyte s0 (1 : Int))) - (48 : Int))) ≥ (0 : Int)))
       (cond (decide ((IntKind.wrap .i64 ((IntKind.wrap .i64 (sbyte s0 (1 : Int))) - (48 : Int))) < (4 : Int)))
        (T.ret (.tuple #[.int .i64 (IntKind.wrap .i64 ((IntKind.wrap .i64 (sbyte s0 (1 : Int))) - (48 : Int))), .bool true, .bool true]))
        (T.ret (.tuple #[.int .i64 (0 : Int), .bool false, .bool false])))
       (T.ret (.tuple #[.int .i64 (0 : Int), .bool false, .bool false])))
      (T.ret (.tuple #[.int .i64 (0 : Int), .bool false, .bool false]))))
    (T.need (((0 : Int) ≤ (0 : Int)) ∧ ((0 : Int) < (s0.size : Int))) <|
    cond ((sbyte s0 (0 : Int)) == (122 : Int))
     (cond (decide ((IntKind.wrap .i64 ((IntKind.wrap .i64 (sbyte s0 (1 : Int))) - (48 : Int))) ≥ (0 : Int)))
      (cond (decide ((IntKind.wrap .i64 ((IntKind.wrap .i64 (sbyte s0 (1 : Int))) - (48 : Int))) < (4 : Int)))
       (T.ret (.tuple #[.int .i64 (IntKind.wrap .i64 ((IntKind.wrap .i64 (sbyte s0 (1 : Int))) - (48 : Int))), .bool true, .bool true]))
       (T.ret (.tuple #[.int .i64 (0 : Int), .bool false, .bool false])))
      (T.ret (.tuple #[.int .i64 (0 : Int), .bool false, .bool false])))
     (T.ret (.tuple #[.int .i64 (0 : Int), .bool false, .bool false]))))
   (T.need (((0 : Int) ≤ (0 : Int)) ∧ ((0 : Int) < (s0.size : Int))) <|
   cond ((sbyte s0 (0 : Int)) == (122 : Int))
    (cond (decide ((IntKind.wrap .i64 ((IntKind.wrap .i64 (sbyte s0 (1 : Int))) - (48 : Int))) ≥ (0 : Int)))
     (cond (decide ((IntKind.wrap .i64 ((IntKind.wrap .i64 (sbyte s0 (1 : Int))) - (48 : Int))) < (4 : Int)))
      (T.ret (.tuple #[.int .i64 (IntKind.wrap .i64 ((IntKind.wrap .i64 (sbyte s0 (1 : Int))) - (48 : Int))), .bool true, .bool true]))
      (T.ret (.tuple #[.int .i64 (0 : Int), .bool false, .bool false])))
     (T.ret (.tuple #[.int .i64 (0 : Int), .bool false, .bool false])))
    (T.ret (.tuple #[.int .i64 (0 : Int), .bool false, .bool false]))))
theorem t_lex_Register_eq (s0 : ByteArray) : xfun Tryd.prog [] Tryd.f29 [.string s0] = t_lex_Register s0 := by kernel_rfl

/-- The tree of 30. -/
def t_lex_Legal (s0 : ByteArray) : T :=
 T.call Tryd.prog 29 [.string s0] true [(false, [.int .i64]), (false, [.bool]), (false, [.bool])] <| fun (n1 : Int) (b2 : Bool) (b3 : Bool) =>
 cond (!((ByteArray.toList s0) == []))
  (cond (decide ((s0.size : Int) ≤ (32 : Int)))
   (T.call Tryd.prog 65 [.string s0, .string ⟨#[97, 98, 99, 100, 101, 102, 103, 104, 105, 106, 107, 108, 109, 110, 111, 112, 113, 114, 115, 116, 117, 118, 119, 120, 121, 122, 65, 66, 67, 68, 69, 70, 71, 72, 73, 74, 75, 76, 77, 78, 79, 80, 81, 82, 83, 84, 85, 86, 87, 88, 89, 90, 95]⟩] false [(false, [.int .i64])] <| fun (n4 : Int) =>
   cond (decide (n4 > (0 : Int)))
    (T.call Tryd.prog 65 [.string s0, .string ⟨#[97, 98, 99, 100, 101, 102, 103, 104, 105, 106, 107, 108, 109, 110, 111, 112, 113, 114, 115, 116, 117, 118, 119, 120, 121, 122, 65, 66, 67, 68, 69, 70, 71, 72, 73, 74, 75, 76, 77, 78, 79, 80, 81, 82, 83, 84, 85, 86, 87, 88, 89, 90, 95, 48, 49, 50, 51, 52, 53, 54, 55, 56, 57]⟩] false [(false, [.int .i64])] <| fun (n5 : Int) =>
    cond (n5 == (s0.size : Int))
     (T.ret (.bool (!b3)))
     (T.ret (.bool false)))
    (T.ret (.bool false)))
   (T.ret (.bool false)))
  (T.ret (.bool false))
theorem t_lex_Legal_eq (s0 : ByteArray) : xfun Tryd.prog [] Tryd.f30 [.string s0] = t_lex_Legal s0 := by kernel_rfl

/-- The tree of 31. -/
def t_spandrelref2_Register (s0 : ByteArray) : T :=
 cond ((s0.size : Int) != (2 : Int))
  (T.ret (.tuple #[.int .i64 (0 : Int), .bool false, .bool false]))
  (T.need (((0 : Int) ≤ (1 : Int)) ∧ ((1 : Int) < (s0.size : Int))) <|
  T.need (((0 : Int) ≤ (0 : Int)) ∧ ((0 : Int) < (s0.size : Int))) <|
  cond ((sbyte s0 (0 : Int)) == (114 : Int))
   (cond (decide ((IntKind.wrap .i64 ((IntKind.wrap .i64 (sbyte s0 (1 : Int))) - (48 : Int))) ≥ (0 : Int)))
    (cond (decide ((IntKind.wrap .i64 ((IntKind.wrap .i64 (sbyte s0 (1 : Int))) - (48 : Int))) ≤ (7 : Int)))
     (T.ret (.tuple #[.int .i64 (IntKind.wrap .i64 ((IntKind.wrap .i64 (sbyte s0 (1 : Int))) - (48 : Int))), .bool false, .bool true]))
     (T.need (((0 : Int) ≤ (0 : Int)) ∧ ((0 : Int) < (s0.size : Int))) <|
     cond ((sbyte s0 (0 : Int)) == (122 : Int))
      (cond (decide ((IntKind.wrap .i64 ((IntKind.wrap .i64 (sbyte s0 (1 : Int))) - (48 : Int))) ≥ (0 : Int)))
       (cond (decide ((IntKind.wrap .i64 ((IntKind.wrap .i64 (sbyte s0 (1 : Int))) - (48 : Int))) ≤ (3 : Int)))
        (T.ret (.tuple #[.int .i64 (IntKind.wrap .i64 ((IntKind.wrap .i64 (sbyte s0 (1 : Int))) - (48 : Int))), .bool true, .bool true]))
        (T.ret (.tuple #[.int .i64 (0 : Int), .bool false, .bool false])))
       (T.ret (.tuple #[.int .i64 (0 : Int), .bool false, .bool false])))
      (T.ret (.tuple #[.int .i64 (0 : Int), .bool false, .bool false]))))
    (T.need (((0 : Int) ≤ (0 : Int)) ∧ ((0 : Int) < (s0.size : Int))) <|
    cond ((sbyte s0 (0 : Int)) == (122 : Int))
     (cond (decide ((IntKind.wrap .i64 ((IntKind.wrap .i64 (sbyte s0 (1 : Int))) - (48 : Int))) ≥ (0 : Int)))
      (cond (decide ((IntKind.wrap .i64 ((IntKind.wrap .i64 (sbyte s0 (1 : Int))) - (48 : Int))) ≤ (3 : Int)))
       (T.ret (.tuple #[.int .i64 (IntKind.wrap .i64 ((IntKind.wrap .i64 (sbyte s0 (1 : Int))) - (48 : Int))), .bool true, .bool true]))
       (T.ret (.tuple #[.int .i64 (0 : Int), .bool false, .bool false])))
      (T.ret (.tuple #[.int .i64 (0 : Int), .bool false, .bool false])))
     (T.ret (.tuple #[.int .i64 (0 : Int), .bool false, .bool false]))))
   (T.need (((0 : Int) ≤ (0 : Int)) ∧ ((0 : Int) < (s0.size : Int))) <|
   cond ((sbyte s0 (0 : Int)) == (122 : Int))
    (cond (decide ((IntKind.wrap .i64 ((IntKind.wrap .i64 (sbyte s0 (1 : Int))) - (48 : Int))) ≥ (0 : Int)))
     (cond (decide ((IntKind.wrap .i64 ((IntKind.wrap .i64 (sbyte s0 (1 : Int))) - (48 : Int))) ≤ (3 : Int)))
      (T.ret (.tuple #[.int .i64 (IntKind.wrap .i64 ((IntKind.wrap .i64 (sbyte s0 (1 : Int))) - (48 : Int))), .bool true, .bool true]))
      (T.ret (.tuple #[.int .i64 (0 : Int), .bool false, .bool false])))
     (T.ret (.tuple #[.int .i64 (0 : Int), .bool false, .bool false])))
    (T.ret (.tuple #[.int .i64 (0 : Int), .bool false, .bool false]))))
theorem t_spandrelref2_Register_eq (s0 : ByteArray) : xfun Tryd.prog [] Tryd.f31 [.string s0] = t_spandrelref2_Register s0 := by kernel_rfl

/-- The tree of 32. -/
def t_spandrelref2_Legal (s0 : ByteArray) : T :=
 cond (decide ((s0.size : Int) < (1 : Int)))
  (T.ret (.bool false))
  (cond (decide ((s0.size : Int) > (32 : Int)))
   (T.ret (.bool false))
   (T.need (((0 : Int) ≤ (0 : Int)) ∧ ((0 : Int) < (s0.size : Int))) <|
   T.call Tryd.prog 68 [.int .u8 (sbyte s0 (0 : Int))] false [(false, [.bool])] <| fun (b1 : Bool) =>
   cond (!b1)
    (T.ret (.bool false))
    (T.loop [(false, [.bool]), (false, [.int .i64])] [.bool false, .int .i64 (0 : Int)] <| fun (b2 : Bool) (n3 : Int) =>
    cond (decide (n3 < (s0.size : Int)))
     (T.need (((0 : Int) ≤ n3) ∧ (n3 < (s0.size : Int))) <|
     T.call Tryd.prog 68 [.int .u8 (sbyte s0 n3)] false [(false, [.bool])] <| fun (b4 : Bool) =>
     cond (!b4)
      (T.need (((0 : Int) ≤ n3) ∧ (n3 < (s0.size : Int))) <|
      T.call Tryd.prog 69 [.int .u8 (sbyte s0 n3)] false [(false, [.bool])] <| fun (b5 : Bool) =>
      cond (!b5)
       (T.ret (.bool false))
       (T.again 0 [.bool b2, .int .i64 (IntKind.wrap .i64 (n3 + (1 : Int)))]))
      (T.again 0 [.bool b2, .int .i64 (IntKind.wrap .i64 (n3 + (1 : Int)))]))
     (T.call Tryd.prog 31 [.string s0] true [(false, [.int .i64]), (false, [.bool]), (false, [.bool])] <| fun (n4 : Int) (b5 : Bool) (b6 : Bool) =>
     T.ret (.bool (!b6))))))
theorem t_spandrelref2_Legal_eq (s0 : ByteArray) : xfun Tryd.prog [] Tryd.f32 [.string s0] = t_spandrelref2_Legal s0 := by kernel_rfl

/-- The tree of 68. -/
def t_spandrelref2_Letter (n0 : Int) : T :=
 cond (decide (n0 ≥ (97 : Int)))
  (cond (decide (n0 ≤ (122 : Int)))
   (T.ret (.bool true))
   (cond (decide (n0 ≥ (65 : Int)))
    (cond (decide (n0 ≤ (90 : Int)))
     (T.ret (.bool true))
     (T.ret (.bool (n0 == (95 : Int)))))
    (T.ret (.bool (n0 == (95 : Int))))))
  (cond (decide (n0 ≥ (65 : Int)))
   (cond (decide (n0 ≤ (90 : Int)))
    (T.ret (.bool true))
    (T.ret (.bool (n0 == (95 : Int)))))
   (T.ret (.bool (n0 == (95 : Int)))))
theorem t_spandrelref2_Letter_eq (n0 : Int) : xfun Tryd.prog [] Tryd.f68 [.int .u8 n0] = t_spandrelref2_Letter n0 := by kernel_rfl

/-- The tree of 69. -/
def t_spandrelref2_Digit (n0 : Int) : T :=
 cond (decide (n0 ≥ (48 : Int)))
  (T.ret (.bool (decide (n0 ≤ (57 : Int)))))
  (T.ret (.bool false))
theorem t_spandrelref2_Digit_eq (n0 : Int) : xfun Tryd.prog [] Tryd.f69 [.int .u8 n0] = t_spandrelref2_Digit n0 := by kernel_rfl

/-- The tree of 8. -/
def t_spandrellaw2_LexNames (s0 : ByteArray) : T :=
 T.call Tryd.prog 29 [.string s0] true [(false, [.int .i64]), (false, [.bool]), (false, [.bool])] <| fun (n1 : Int) (b2 : Bool) (b3 : Bool) =>
 T.call Tryd.prog 31 [.string s0] true [(false, [.int .i64]), (false, [.bool]), (false, [.bool])] <| fun (n4 : Int) (b5 : Bool) (b6 : Bool) =>
 T.call Tryd.prog 30 [.string s0] false [(false, [.bool])] <| fun (b7 : Bool) =>
 T.call Tryd.prog 32 [.string s0] false [(false, [.bool])] <| fun (b8 : Bool) =>
 cond (b7 == b8)
  (cond (n1 == n4)
   (cond (b2 == b5)
    (cond (b3 == b6)
     (T.call Tryd.prog 24 [] false [(false, [.bool])] <| fun (b9 : Bool) =>
     T.ret (.bool b9))
     (T.ret (.bool false)))
    (T.ret (.bool false)))
   (T.ret (.bool false)))
  (T.ret (.bool false))
theorem t_spandrellaw2_LexNames_eq (s0 : ByteArray) : xfun Tryd.prog [] Tryd.f8 [.string s0] = t_spandrellaw2_LexNames s0 := by kernel_rfl

/-- The tree of 24. -/
def t_spandrellaw2_known  : T :=
 T.call Tryd.prog 21 [.string ⟨#[97, 58, 32, 106, 109, 112, 32, 98, 43, 48, 120, 49, 102, 32, 59, 32, 120]⟩] true [(false, [.slice 35]), (false, [.int .i64]), (false, [.int .i64])] <| fun (p1 : Option Addr) (l2 : Nat) (l3 : Nat) (n4 : Int) (n5 : Int) =>
 T.call Tryd.prog 21 [.string ⟨#[97, 32, 36]⟩] true [(false, [.slice 35]), (false, [.int .i64]), (false, [.int .i64])] <| fun (p6 : Option Addr) (l7 : Nat) (l8 : Nat) (n9 : Int) (n10 : Int) =>
 cond (n5 == (0 : Int))
  (cond ((l2 : Int) == (6 : Int))
   (T.need (((0 : Int) ≤ (0 : Int)) ∧ ((0 : Int) < (l2 : Int))) <|
   T.osome p1 <| fun (a11 : Addr) =>
   T.loads a11 [.int .i64, .string, .int .u32, .int .i64] <| fun (n12 : Int) (s13 : ByteArray) (n14 : Int) (n15 : Int) =>
   T.sem Tryd.prog (Sx.cmpS (BinOp.eql) 35 (Operand.tmp 27) (Operand.tmp 28) (.agg #[.int .i64 n12, .string s13, .int .u32 n14, .int .i64 n15]) (.agg #[.int .i64 (1 : Int), .string ⟨#[97]⟩, .int .u32 (0 : Int), .int .i64 (0 : Int)])) false [(false, [.bool])] <| fun (b16 : Bool) =>
   cond b16
    (T.need (((0 : Int) ≤ (5 : Int)) ∧ ((5 : Int) < (l2 : Int))) <|
    T.osome p1 <| fun (a17 : Addr) =>
    T.loads (a17.add 20) [.int .i64, .string, .int .u32, .int .i64] <| fun (n18 : Int) (s19 : ByteArray) (n20 : Int) (n21 : Int) =>
    T.sem Tryd.prog (Sx.cmpS (BinOp.eql) 35 (Operand.tmp 34) (Operand.tmp 35) (.agg #[.int .i64 n18, .string s19, .int .u32 n20, .int .i64 n21]) (.agg #[.int .i64 (2 : Int), .string ⟨#[48, 120, 49, 102]⟩, .int .u32 (31 : Int), .int .i64 (9 : Int)])) false [(false, [.bool])] <| fun (b22 : Bool) =>
    cond b22
     (cond (n9 == (2 : Int))
      (T.ret (.bool (n10 == (20 : Int))))
      (T.ret (.bool false)))
     (T.ret (.bool false)))
    (T.ret (.bool false)))
   (T.ret (.bool false)))
  (T.ret (.bool false))
theorem t_spandrellaw2_known_eq  : xfun Tryd.prog [] Tryd.f24 [] = t_spandrellaw2_known  := by kernel_rfl

/-- The tree of 92. -/
def t_strings_HasPrefix (s0 : ByteArray) (s1 : ByteArray) : T :=
 T.call Tryd.prog 107 [.string s0, .string s1] false [(false, [.bool])] <| fun (b2 : Bool) =>
 T.ret (.bool b2)
theorem t_strings_HasPrefix_eq (s0 : ByteArray) (s1 : ByteArray) : xfun Tryd.prog [] Tryd.f92 [.string s0, .string s1] = t_strings_HasPrefix s0 s1 := by kernel_rfl

/-- The tree of 107. -/
def t_internal_stringslite_HasPrefix (s0 : ByteArray) (s1 : ByteArray) : T :=
 cond (decide ((s0.size : Int) ≥ (s1.size : Int)))
  (T.need (((0 : Int) ≤ (0 : Int)) ∧ (((0 : Int) ≤ (s1.size : Int)) ∧ ((s1.size : Int) ≤ (s0.size : Int)))) <|
  T.ret (.bool ((ByteArray.toList (ByteArray.extract s0 0 (Int.toNat (s1.size : Int)))) == (ByteArray.toList s1))))
  (T.ret (.bool false))
theorem t_internal_stringslite_HasPrefix_eq (s0 : ByteArray) (s1 : ByteArray) : xfun Tryd.prog [] Tryd.f107 [.string s0, .string s1] = t_internal_stringslite_HasPrefix s0 s1 := by kernel_rfl

/-- The tree of 67. -/
def t_lex_number (s0 : ByteArray) : T :=
 T.call Tryd.prog 65 [.string s0, .string ⟨#[48, 49, 50, 51, 52, 53, 54, 55, 56, 57]⟩] false [(false, [.int .i64])] <| fun (n1 : Int) =>
 T.call Tryd.prog 92 [.string s0, .string ⟨#[48, 120]⟩] false [(false, [.bool])] <| fun (b2 : Bool) =>
 cond b2
  (T.need (((0 : Int) ≤ (2 : Int)) ∧ (((2 : Int) ≤ (s0.size : Int)) ∧ ((s0.size : Int) ≤ (s0.size : Int)))) <|
  T.call Tryd.prog 65 [.string (ByteArray.extract s0 2 (Int.toNat (s0.size : Int))), .string ⟨#[48, 49, 50, 51, 52, 53, 54, 55, 56, 57, 97, 98, 99, 100, 101, 102]⟩] false [(false, [.int .i64])] <| fun (n3 : Int) =>
  cond (decide (n3 > (8 : Int)))
   (T.ret (.tuple #[.int .i64 (0 : Int), .int .u32 (0 : Int)]))
   (T.need (((0 : Int) ≤ (2 : Int)) ∧ (((2 : Int) ≤ (IntKind.wrap .i64 ((2 : Int) + n3))) ∧ ((IntKind.wrap .i64 ((2 : Int) + n3)) ≤ (s0.size : Int)))) <|
   T.call Tryd.prog 93 [.string (ByteArray.extract s0 2 (Int.toNat (IntKind.wrap .i64 ((2 : Int) + n3)))), .int .i64 (16 : Int), .int .i64 (32 : Int)] true [(false, [.int .u64]), (false, [.interface #[("Error", 147)]])] <| fun (n4 : Int) (v5 : Value) =>
   T.sem Tryd.prog (Sx.cmpS (BinOp.neq) 133 (Operand.tmp 37) (Operand.const Value.nilIface) v5 .nilIface) false [(false, [.bool])] <| fun (b6 : Bool) =>
   cond b6
    (T.ret (.tuple #[.int .i64 (0 : Int), .int .u32 (0 : Int)]))
    (T.ret (.tuple #[.int .i64 (IntKind.wrap .i64 ((2 : Int) + n3)), .int .u32 (IntKind.wrap .u32 n4)]))))
  (cond (decide (n1 > (1 : Int)))
   (T.need (((0 : Int) ≤ (0 : Int)) ∧ ((0 : Int) < (s0.size : Int))) <|
   cond ((sbyte s0 (0 : Int)) == (48 : Int))
    (T.ret (.tuple #[.int .i64 (0 : Int), .int .u32 (0 : Int)]))
    (T.need (((0 : Int) ≤ (0 : Int)) ∧ (((0 : Int) ≤ (IntKind.wrap .i64 ((0 : Int) + n1))) ∧ ((IntKind.wrap .i64 ((0 : Int) + n1)) ≤ (s0.size : Int)))) <|
    T.call Tryd.prog 93 [.string (ByteArray.extract s0 0 (Int.toNat (IntKind.wrap .i64 ((0 : Int) + n1)))), .int .i64 (10 : Int), .int .i64 (32 : Int)] true [(false, [.int .u64]), (false, [.interface #[("Error", 147)]])] <| fun (n3 : Int) (v4 : Value) =>
    T.sem Tryd.prog (Sx.cmpS (BinOp.neq) 133 (Operand.tmp 37) (Operand.const Value.nilIface) v4 .nilIface) false [(false, [.bool])] <| fun (b5 : Bool) =>
    cond b5
     (T.ret (.tuple #[.int .i64 (0 : Int), .int .u32 (0 : Int)]))
     (T.ret (.tuple #[.int .i64 (IntKind.wrap .i64 ((0 : Int) + n1)), .int .u32 (IntKind.wrap .u32 n3)]))))
   (T.need (((0 : Int) ≤ (0 : Int)) ∧ (((0 : Int) ≤ (IntKind.wrap .i64 ((0 : Int) + n1))) ∧ ((IntKind.wrap .i64 ((0 : Int) + n1)) ≤ (s0.size : Int)))) <|
   T.call Tryd.prog 93 [.string (ByteArray.extract s0 0 (Int.toNat (IntKind.wrap .i64 ((0 : Int) + n1)))), .int .i64 (10 : Int), .int .i64 (32 : Int)] true [(false, [.int .u64]), (false, [.interface #[("Error", 147)]])] <| fun (n3 : Int) (v4 : Value) =>
   T.sem Tryd.prog (Sx.cmpS (BinOp.neq) 133 (Operand.tmp 37) (Operand.const Value.nilIface) v4 .nilIface) false [(false, [.bool])] <| fun (b5 : Bool) =>
   cond b5
    (T.ret (.tuple #[.int .i64 (0 : Int), .int .u32 (0 : Int)]))
    (T.ret (.tuple #[.int .i64 (IntKind.wrap .i64 ((0 : Int) + n1)), .int .u32 (IntKind.wrap .u32 n3)]))))
theorem t_lex_number_eq (s0 : ByteArray) : xfun Tryd.prog [] Tryd.f67 [.string s0] = t_lex_number s0 := by kernel_rfl

/-- The tree of 21. -/
def t_lex_Tokens (s0 : ByteArray) : T :=
 T.new [.int .i64 (0 : Int), .string ⟨#[]⟩, .int .u32 (0 : Int), .int .i64 (0 : Int)] 35 <| fun (a1 : Addr) =>
 T.loop [(false, [.slice 0]), (false, [.int .i64]), (false, [.int .i64]), (false, [.slice 0]), (false, [.pointer 0]), (false, [.int .i64]), (false, [.int .i64])] [.slice none 0 0, .int .i64 (0 : Int), .int .i64 (0 : Int), .slice none 0 0, .pointer (some a1), .int .i64 (0 : Int), .int .i64 (0 : Int)] <| fun (p2 : Option Addr) (l3 : Nat) (l4 : Nat) (n5 : Int) (n6 : Int) (p7 : Option Addr) (l8 : Nat) (l9 : Nat) (p10 : Option Addr) (n11 : Int) (n12 : Int) =>
 T.need (((0 : Int) ≤ n12) ∧ ((n12 ≤ (s0.size : Int)) ∧ ((s0.size : Int) ≤ (s0.size : Int)))) <|
 T.call Tryd.prog 65 [.string (ByteArray.extract s0 (Int.toNat n12) (Int.toNat (s0.size : Int))), .string ⟨#[9, 13, 32]⟩] false [(false, [.int .i64])] <| fun (n13 : Int) =>
 cond ((IntKind.wrap .i64 (n12 + n13)) == (s0.size : Int))
  (T.ret (.tuple #[.slice p7 l8 l9, .int .i64 (0 : Int), .int .i64 (0 : Int)]))
  (T.need (((0 : Int) ≤ (IntKind.wrap .i64 (n12 + n13))) ∧ ((IntKind.wrap .i64 (n12 + n13)) < (s0.size : Int))) <|
  cond ((sbyte s0 (IntKind.wrap .i64 (n12 + n13))) == (59 : Int))
   (T.ret (.tuple #[.slice p7 l8 l9, .int .i64 (0 : Int), .int .i64 (0 : Int)]))
   (T.osome p10 <| fun (a14 : Addr) =>
   T.stores a14 [.int .i64 (0 : Int), .string ⟨#[]⟩, .int .u32 (0 : Int), .int .i64 (IntKind.wrap .i64 (n12 + n13))] <|
   T.need (((0 : Int) ≤ (IntKind.wrap .i64 (n12 + n13))) ∧ ((IntKind.wrap .i64 (n12 + n13)) < (s0.size : Int))) <|
   T.need (((0 : Int) ≤ (IntKind.wrap .i64 (n12 + n13))) ∧ (((IntKind.wrap .i64 (n12 + n13)) ≤ (s0.size : Int)) ∧ ((s0.size : Int) ≤ (s0.size : Int)))) <|
   T.call Tryd.prog 65 [.string (ByteArray.extract s0 (Int.toNat (IntKind.wrap .i64 (n12 + n13))) (Int.toNat (s0.size : Int))), .string ⟨#[97, 98, 99, 100, 101, 102, 103, 104, 105, 106, 107, 108, 109, 110, 111, 112, 113, 114, 115, 116, 117, 118, 119, 120, 121, 122, 65, 66, 67, 68, 69, 70, 71, 72, 73, 74, 75, 76, 77, 78, 79, 80, 81, 82, 83, 84, 85, 86, 87, 88, 89, 90, 95]⟩] false [(false, [.int .i64])] <| fun (n15 : Int) =>
   cond (decide (n15 > (0 : Int)))
    (T.osome p10 <| fun (a16 : Addr) =>
    T.stores a16 [.int .i64 (1 : Int)] <|
    T.need (((0 : Int) ≤ (IntKind.wrap .i64 (n12 + n13))) ∧ (((IntKind.wrap .i64 (n12 + n13)) ≤ (s0.size : Int)) ∧ ((s0.size : Int) ≤ (s0.size : Int)))) <|
    T.call Tryd.prog 65 [.string (ByteArray.extract s0 (Int.toNat (IntKind.wrap .i64 (n12 + n13))) (Int.toNat (s0.size : Int))), .string ⟨#[97, 98, 99, 100, 101, 102, 103, 104, 105, 106, 107, 108, 109, 110, 111, 112, 113, 114, 115, 116, 117, 118, 119, 120, 121, 122, 65, 66, 67, 68, 69, 70, 71, 72, 73, 74, 75, 76, 77, 78, 79, 80, 81, 82, 83, 84, 85, 86, 87, 88, 89, 90, 95, 48, 49, 50, 51, 52, 53, 54, 55, 56, 57]⟩] false [(false, [.int .i64])] <| fun (n17 : Int) =>
    cond (decide (n17 > (32 : Int)))
     (T.ret (.tuple #[.slice none 0 0, .int .i64 (IntKind.wrap .i64 (n12 + n13)), .int .i64 (20 : Int)]))
     (T.need (((0 : Int) ≤ (IntKind.wrap .i64 (n12 + n13))) ∧ (((IntKind.wrap .i64 (n12 + n13)) ≤ (IntKind.wrap .i64 ((IntKind.wrap .i64 (n12 + n13)) + n17))) ∧ ((IntKind.wrap .i64 ((IntKind.wrap .i64 (n12 + n13)) + n17)) ≤ (s0.size : Int)))) <|
     T.osome p10 <| fun (a18 : Addr) =>
     T.stores (a18.add 1) [.string (ByteArray.extract s0 (Int.toNat (IntKind.wrap .i64 (n12 + n13))) (Int.toNat (IntKind.wrap .i64 ((IntKind.wrap .i64 (n12 + n13)) + n17))))] <|
     T.osome p10 <| fun (a19 : Addr) =>
     T.loads a19 [.int .i64, .string, .int .u32, .int .i64] <| fun (n20 : Int) (s21 : ByteArray) (n22 : Int) (n23 : Int) =>
     T.sem Tryd.prog (Instr.buildSlice 23 1 #[(0, .agg #[.int .i64 n20, .string s21, .int .u32 n22, .int .i64 n23])]) false [(false, [.slice 0])] <| fun (p24 : Option Addr) (l25 : Nat) (l26 : Nat) =>
     T.sem Tryd.prog (Builtin.append_ #[23, 23] 23 #[.slice p7 l8 l9, .slice p24 l25 l26]) false [(false, [.slice 0])] <| fun (p27 : Option Addr) (l28 : Nat) (l29 : Nat) =>
     T.again 0 [.slice p2 l3 l4, .int .i64 n5, .int .i64 n6, .slice p27 l28 l29, .pointer p10, .int .i64 n17, .int .i64 (IntKind.wrap .i64 ((IntKind.wrap .i64 (n12 + n13)) + n17))]))
    (T.need (((0 : Int) ≤ (IntKind.wrap .i64 (n12 + n13))) ∧ (((IntKind.wrap .i64 (n12 + n13)) ≤ (s0.size : Int)) ∧ ((s0.size : Int) ≤ (s0.size : Int)))) <|
    T.call Tryd.prog 65 [.string (ByteArray.extract s0 (Int.toNat (IntKind.wrap .i64 (n12 + n13))) (Int.toNat (s0.size : Int))), .string ⟨#[48, 49, 50, 51, 52, 53, 54, 55, 56, 57]⟩] false [(false, [.int .i64])] <| fun (n16 : Int) =>
    cond (decide (n16 > (0 : Int)))
     (T.osome p10 <| fun (a17 : Addr) =>
     T.stores a17 [.int .i64 (2 : Int)] <|
     T.need (((0 : Int) ≤ (IntKind.wrap .i64 (n12 + n13))) ∧ (((IntKind.wrap .i64 (n12 + n13)) ≤ (s0.size : Int)) ∧ ((s0.size : Int) ≤ (s0.size : Int)))) <|
     T.call Tryd.prog 67 [.string (ByteArray.extract s0 (Int.toNat (IntKind.wrap .i64 (n12 + n13))) (Int.toNat (s0.size : Int)))] true [(false, [.int .i64]), (false, [.int .u32])] <| fun (n18 : Int) (n19 : Int) =>
     T.osome p10 <| fun (a20 : Addr) =>
     T.stores (a20.add 2) [.int .u32 n19] <|
     cond (n18 == (0 : Int))
      (T.ret (.tuple #[.slice none 0 0, .int .i64 (IntKind.wrap .i64 (n12 + n13)), .int .i64 (20 : Int)]))
      (T.need (((0 : Int) ≤ (IntKind.wrap .i64 ((IntKind.wrap .i64 (n12 + n13)) + n18))) ∧ (((IntKind.wrap .i64 ((IntKind.wrap .i64 (n12 + n13)) + n18)) ≤ (s0.size : Int)) ∧ ((s0.size : Int) ≤ (s0.size : Int)))) <|
      T.call Tryd.prog 65 [.string (ByteArray.extract s0 (Int.toNat (IntKind.wrap .i64 ((IntKind.wrap .i64 (n12 + n13)) + n18))) (Int.toNat (s0.size : Int))), .string ⟨#[97, 98, 99, 100, 101, 102, 103, 104, 105, 106, 107, 108, 109, 110, 111, 112, 113, 114, 115, 116, 117, 118, 119, 120, 121, 122, 65, 66, 67, 68, 69, 70, 71, 72, 73, 74, 75, 76, 77, 78, 79, 80, 81, 82, 83, 84, 85, 86, 87, 88, 89, 90, 95, 48, 49, 50, 51, 52, 53, 54, 55, 56, 57]⟩] false [(false, [.int .i64])] <| fun (n21 : Int) =>
      cond (decide (n21 > (0 : Int)))
       (T.ret (.tuple #[.slice none 0 0, .int .i64 (IntKind.wrap .i64 (n12 + n13)), .int .i64 (20 : Int)]))
       (T.need (((0 : Int) ≤ (IntKind.wrap .i64 (n12 + n13))) ∧ (((IntKind.wrap .i64 (n12 + n13)) ≤ (IntKind.wrap .i64 ((IntKind.wrap .i64 (n12 + n13)) + n18))) ∧ ((IntKind.wrap .i64 ((IntKind.wrap .i64 (n12 + n13)) + n18)) ≤ (s0.size : Int)))) <|
       T.osome p10 <| fun (a22 : Addr) =>
       T.stores (a22.add 1) [.string (ByteArray.extract s0 (Int.toNat (IntKind.wrap .i64 (n12 + n13))) (Int.toNat (IntKind.wrap .i64 ((IntKind.wrap .i64 (n12 + n13)) + n18))))] <|
       T.osome p10 <| fun (a23 : Addr) =>
       T.loads a23 [.int .i64, .string, .int .u32, .int .i64] <| fun (n24 : Int) (s25 : ByteArray) (n26 : Int) (n27 : Int) =>
       T.sem Tryd.prog (Instr.buildSlice 23 1 #[(0, .agg #[.int .i64 n24, .string s25, .int .u32 n26, .int .i64 n27])]) false [(false, [.slice 0])] <| fun (p28 : Option Addr) (l29 : Nat) (l30 : Nat) =>
       T.sem Tryd.prog (Builtin.append_ #[23, 23] 23 #[.slice p7 l8 l9, .slice p28 l29 l30]) false [(false, [.slice 0])] <| fun (p31 : Option Addr) (l32 : Nat) (l33 : Nat) =>
       T.again 0 [.slice p2 l3 l4, .int .i64 n5, .int .i64 n6, .slice p31 l32 l33, .pointer p10, .int .i64 n18, .int .i64 (IntKind.wrap .i64 ((IntKind.wrap .i64 (n12 + n13)) + n18))])))
     (cond ((sbyte s0 (IntKind.wrap .i64 (n12 + n13))) == (39 : Int))
      (cond (decide ((IntKind.wrap .i64 ((s0.size : Int) - (IntKind.wrap .i64 (n12 + n13)))) < (3 : Int)))
       (T.ret (.tuple #[.slice none 0 0, .int .i64 (IntKind.wrap .i64 (n12 + n13)), .int .i64 (20 : Int)]))
       (T.need (((0 : Int) ≤ (IntKind.wrap .i64 ((IntKind.wrap .i64 (n12 + n13)) + (1 : Int)))) ∧ ((IntKind.wrap .i64 ((IntKind.wrap .i64 (n12 + n13)) + (1 : Int))) < (s0.size : Int))) <|
       cond (decide ((sbyte s0 (IntKind.wrap .i64 ((IntKind.wrap .i64 (n12 + n13)) + (1 : Int)))) < (32 : Int)))
        (T.ret (.tuple #[.slice none 0 0, .int .i64 (IntKind.wrap .i64 (n12 + n13)), .int .i64 (20 : Int)]))
        (T.need (((0 : Int) ≤ (IntKind.wrap .i64 ((IntKind.wrap .i64 (n12 + n13)) + (1 : Int)))) ∧ ((IntKind.wrap .i64 ((IntKind.wrap .i64 (n12 + n13)) + (1 : Int))) < (s0.size : Int))) <|
        cond (decide ((sbyte s0 (IntKind.wrap .i64 ((IntKind.wrap .i64 (n12 + n13)) + (1 : Int)))) > (126 : Int)))
         (T.ret (.tuple #[.slice none 0 0, .int .i64 (IntKind.wrap .i64 (n12 + n13)), .int .i64 (20 : Int)]))
         (T.need (((0 : Int) ≤ (IntKind.wrap .i64 ((IntKind.wrap .i64 (n12 + n13)) + (1 : Int)))) ∧ ((IntKind.wrap .i64 ((IntKind.wrap .i64 (n12 + n13)) + (1 : Int))) < (s0.size : Int))) <|
         cond ((sbyte s0 (IntKind.wrap .i64 ((IntKind.wrap .i64 (n12 + n13)) + (1 : Int)))) == (39 : Int))
          (T.ret (.tuple #[.slice none 0 0, .int .i64 (IntKind.wrap .i64 (n12 + n13)), .int .i64 (20 : Int)]))
          (T.need (((0 : Int) ≤ (IntKind.wrap .i64 ((IntKind.wrap .i64 (n12 + n13)) + (2 : Int)))) ∧ ((IntKind.wrap .i64 ((IntKind.wrap .i64 (n12 + n13)) + (2 : Int))) < (s0.size : Int))) <|
          cond ((sbyte s0 (IntKind.wrap .i64 ((IntKind.wrap .i64 (n12 + n13)) + (2 : Int)))) != (39 : Int))
           (T.ret (.tuple #[.slice none 0 0, .int .i64 (IntKind.wrap .i64 (n12 + n13)), .int .i64 (20 : Int)]))
           (T.need (((0 : Int) ≤ (IntKind.wrap .i64 ((IntKind.wrap .i64 (n12 + n13)) + (1 : Int)))) ∧ ((IntKind.wrap .i64 ((IntKind.wrap .i64 (n12 + n13)) + (1 : Int))) < (s0.size : Int))) <|
           T.osome p10 <| fun (a17 : Addr) =>
           T.stores a17 [.int .i64 (2 : Int)] <|
           T.osome p10 <| fun (a18 : Addr) =>
           T.stores (a18.add 2) [.int .u32 (IntKind.wrap .u32 (sbyte s0 (IntKind.wrap .i64 ((IntKind.wrap .i64 (n12 + n13)) + (1 : Int)))))] <|
           T.need (((0 : Int) ≤ (IntKind.wrap .i64 (n12 + n13))) ∧ (((IntKind.wrap .i64 (n12 + n13)) ≤ (IntKind.wrap .i64 ((IntKind.wrap .i64 (n12 + n13)) + (3 : Int)))) ∧ ((IntKind.wrap .i64 ((IntKind.wrap .i64 (n12 + n13)) + (3 : Int))) ≤ (s0.size : Int)))) <|
           T.osome p10 <| fun (a19 : Addr) =>
           T.stores (a19.add 1) [.string (ByteArray.extract s0 (Int.toNat (IntKind.wrap .i64 (n12 + n13))) (Int.toNat (IntKind.wrap .i64 ((IntKind.wrap .i64 (n12 + n13)) + (3 : Int)))))] <|
           T.osome p10 <| fun (a20 : Addr) =>
           T.loads a20 [.int .i64, .string, .int .u32, .int .i64] <| fun (n21 : Int) (s22 : ByteArray) (n23 : Int) (n24 : Int) =>
           T.sem Tryd.prog (Instr.buildSlice 23 1 #[(0, .agg #[.int .i64 n21, .string s22, .int .u32 n23, .int .i64 n24])]) false [(false, [.slice 0])] <| fun (p25 : Option Addr) (l26 : Nat) (l27 : Nat) =>
           T.sem Tryd.prog (Builtin.append_ #[23, 23] 23 #[.slice p7 l8 l9, .slice p25 l26 l27]) false [(false, [.slice 0])] <| fun (p28 : Option Addr) (l29 : Nat) (l30 : Nat) =>
           T.again 0 [.slice p2 l3 l4, .int .i64 n5, .int .i64 n6, .slice p28 l29 l30, .pointer p10, .int .i64 (3 : Int), .int .i64 (IntKind.wrap .i64 ((IntKind.wrap .i64 (n12 + n13)) + (3 : Int)))]))))))
      (T.call Tryd.prog 66 [.string ⟨#[58, 44, 40, 41, 43, 45, 42, 61]⟩, .int .u8 (sbyte s0 (IntKind.wrap .i64 (n12 + n13)))] false [(false, [.int .i64])] <| fun (n17 : Int) =>
      cond (decide (n17 ≥ (0 : Int)))
       (T.osome p10 <| fun (a18 : Addr) =>
       T.stores a18 [.int .i64 (3 : Int)] <|
       T.need (((0 : Int) ≤ (IntKind.wrap .i64 (n12 + n13))) ∧ (((IntKind.wrap .i64 (n12 + n13)) ≤ (IntKind.wrap .i64 ((IntKind.wrap .i64 (n12 + n13)) + (1 : Int)))) ∧ ((IntKind.wrap .i64 ((IntKind.wrap .i64 (n12 + n13)) + (1 : Int))) ≤ (s0.size : Int)))) <|
       T.osome p10 <| fun (a19 : Addr) =>
       T.stores (a19.add 1) [.string (ByteArray.extract s0 (Int.toNat (IntKind.wrap .i64 (n12 + n13))) (Int.toNat (IntKind.wrap .i64 ((IntKind.wrap .i64 (n12 + n13)) + (1 : Int)))))] <|
       T.osome p10 <| fun (a20 : Addr) =>
       T.loads a20 [.int .i64, .string, .int .u32, .int .i64] <| fun (n21 : Int) (s22 : ByteArray) (n23 : Int) (n24 : Int) =>
       T.sem Tryd.prog (Instr.buildSlice 23 1 #[(0, .agg #[.int .i64 n21, .string s22, .int .u32 n23, .int .i64 n24])]) false [(false, [.slice 0])] <| fun (p25 : Option Addr) (l26 : Nat) (l27 : Nat) =>
       T.sem Tryd.prog (Builtin.append_ #[23, 23] 23 #[.slice p7 l8 l9, .slice p25 l26 l27]) false [(false, [.slice 0])] <| fun (p28 : Option Addr) (l29 : Nat) (l30 : Nat) =>
       T.again 0 [.slice p2 l3 l4, .int .i64 n5, .int .i64 n6, .slice p28 l29 l30, .pointer p10, .int .i64 (1 : Int), .int .i64 (IntKind.wrap .i64 ((IntKind.wrap .i64 (n12 + n13)) + (1 : Int)))])
       (T.ret (.tuple #[.slice none 0 0, .int .i64 (IntKind.wrap .i64 (n12 + n13)), .int .i64 (20 : Int)])))))))
theorem t_lex_Tokens_eq (s0 : ByteArray) : xfun Tryd.prog [] Tryd.f21 [.string s0] = t_lex_Tokens s0 := by kernel_rfl

end Go.Sx
