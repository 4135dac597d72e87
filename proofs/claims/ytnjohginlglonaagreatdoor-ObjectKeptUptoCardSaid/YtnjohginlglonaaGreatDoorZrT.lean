/- Trees of functions, each checked by the kernel against the code. No condition. -/
import Derived.Test.YtnjohginlglonaaGreatDoorSxF
import Derived.Test.YtnjohginlglonaaGreatDoorProg
import Derived.KernelRfl
set_option linter.unusedVariables false
set_option linter.unusedSimpArgs false
set_option linter.deprecated false
set_option maxRecDepth 100000
namespace Go.Sx
open Go.Proofs
/-- The tree of 43. -/
def t_spandrelref2_Legal (s0 : ByteArray) : T :=
 cond (decide ((s0.size : Int) < (1 : Int)))
  (T.ret (.bool false))
  (cond (decide ((s0.size : Int) > (32 : Int)))
   (T.ret (.bool false))
   (T.need (((0 : Int) ≤ (0 : Int)) ∧ ((0 : Int) < (s0.size : Int))) <|
   T.call Tryz.prog 77 [.int .u8 (sbyte s0 (0 : Int))] false [(false, [.bool])] <| fun (b1 : Bool) =>
   cond (!b1)
    (T.ret (.bool false))
    (T.loop [(false, [.bool]), (false, [.int .i64])] [.bool false, .int .i64 (0 : Int)] <| fun (b2 : Bool) (n3 : Int) =>
    cond (decide (n3 < (s0.size : Int)))
     (T.need (((0 : Int) ≤ n3) ∧ (n3 < (s0.size : Int))) <|
     T.call Tryz.prog 77 [.int .u8 (sbyte s0 n3)] false [(false, [.bool])] <| fun (b4 : Bool) =>
     cond (!b4)
      (T.need (((0 : Int) ≤ n3) ∧ (n3 < (s0.size : Int))) <|
      T.call Tryz.prog 78 [.int .u8 (sbyte s0 n3)] false [(false, [.bool])] <| fun (b5 : Bool) =>
      cond (!b5)
       (T.ret (.bool false))
       (T.again 0 [.bool b2, .int .i64 (IntKind.wrap .i64 (n3 + (1 : Int)))]))
      (T.again 0 [.bool b2, .int .i64 (IntKind.wrap .i64 (n3 + (1 : Int)))]))
     (T.call Tryz.prog 79 [.string s0] true [(false, [.int .i64]), (false, [.bool]), (false, [.bool])] <| fun (n4 : Int) (b5 : Bool) (b6 : Bool) =>
     T.ret (.bool (!b6))))))
theorem t_spandrelref2_Legal_eq (s0 : ByteArray) : xfun Tryz.prog [] Tryz.f43 [.string s0] = t_spandrelref2_Legal s0 := by kernel_rfl

/-- The tree of 44. -/
def t_spandrelref4_Right (pp00 : Option Addr) (ll00 cc00 : Nat) (n1_0 : Int) : T :=
 T.new [.slice pp00 ll00 cc00, .int .u32 n1_0] 75 <| fun (a1 : Addr) =>
 T.loop [(false, [.bool]), (false, [.int .i64])] [.bool false, .int .i64 (0 : Int)] <| fun (b2 : Bool) (n3 : Int) =>
 T.loads a1 [.slice 104] <| fun (p4 : Option Addr) (l5 : Nat) (l6 : Nat) =>
 cond (decide (n3 < (l5 : Int)))
  (T.loads a1 [.slice 104] <| fun (p7 : Option Addr) (l8 : Nat) (l9 : Nat) =>
  T.need (((0 : Int) ≤ n3) ∧ (n3 < (l8 : Int))) <|
  T.osome p7 <| fun (a10 : Addr) =>
  T.loads (a10.add ((Int.toNat n3) * 2)) [.string] <| fun (s11 : ByteArray) =>
  T.call Tryz.prog 43 [.string s11] false [(false, [.bool])] <| fun (b12 : Bool) =>
  T.stable [(a1, [.slice p7 l8 l9])] <|
  cond (!b12)
   (T.ret (.bool false))
   (T.loads a1 [.slice 104] <| fun (p13 : Option Addr) (l14 : Nat) (l15 : Nat) =>
   T.need (((0 : Int) ≤ n3) ∧ (n3 < (l14 : Int))) <|
   T.osome p13 <| fun (a16 : Addr) =>
   T.loads ((a16.add ((Int.toNat n3) * 2)).add 1) [.int .u32] <| fun (n17 : Int) =>
   cond (n17 == (0 : Int))
    (T.ret (.bool false))
    (cond (decide (n3 > (0 : Int)))
     (T.loads a1 [.slice 104] <| fun (p18 : Option Addr) (l19 : Nat) (l20 : Nat) =>
     T.need (((0 : Int) ≤ n3) ∧ (n3 < (l19 : Int))) <|
     T.osome p18 <| fun (a21 : Addr) =>
     T.loads (a21.add ((Int.toNat n3) * 2)) [.string] <| fun (s22 : ByteArray) =>
     T.loads a1 [.slice 104] <| fun (p23 : Option Addr) (l24 : Nat) (l25 : Nat) =>
     T.need (((0 : Int) ≤ (IntKind.wrap .i64 (n3 - (1 : Int)))) ∧ ((IntKind.wrap .i64 (n3 - (1 : Int))) < (l24 : Int))) <|
     T.osome p23 <| fun (a26 : Addr) =>
     T.loads (a26.add ((Int.toNat (IntKind.wrap .i64 (n3 - (1 : Int)))) * 2)) [.string] <| fun (s27 : ByteArray) =>
     cond ((Op.bytesLess (ByteArray.toList s22) (ByteArray.toList s27)) || ((ByteArray.toList s22) == (ByteArray.toList s27)))
      (T.ret (.bool false))
      (T.again 0 [.bool b2, .int .i64 (IntKind.wrap .i64 (n3 + (1 : Int)))]))
     (T.again 0 [.bool b2, .int .i64 (IntKind.wrap .i64 (n3 + (1 : Int)))]))))
  (T.ret (.bool true))
theorem t_spandrelref4_Right_eq (pp00 : Option Addr) (ll00 cc00 : Nat) (n1_0 : Int) : xfun Tryz.prog [] Tryz.f44 [.agg #[.slice pp00 ll00 cc00, .int .u32 n1_0]] = t_spandrelref4_Right pp00 ll00 cc00 n1_0 := by kernel_rfl

/-- The tree of 77. -/
def t_spandrelref2_Letter (n0 : Int) : T :=
 cond (decide (n0 ≥ (97 : Int)))
  (cond (decide (n0 ≤ (122 : Int)))
   (T.ret (.bool true))
   (cond (decide (n0 ≥ (65 : Int)))
    (cond (decide (n0 ≤ (90 : Int)))
     (T.ret (.bool true))
     (T.ret (.bool (n0 == (95 : Int)))))
    (T.ret (.bool (n0 == (95 : Int))))))
  (cond (decide (n0 ≥ (65 : Int)))
   (cond (decide (n0 ≤ (90 : Int)))
    (T.ret (.bool true))
    (T.ret (.bool (n0 == (95 : Int)))))
   (T.ret (.bool (n0 == (95 : Int)))))
theorem t_spandrelref2_Letter_eq (n0 : Int) : xfun Tryz.prog [] Tryz.f77 [.int .u8 n0] = t_spandrelref2_Letter n0 := by kernel_rfl

/-- The tree of 78. -/
def t_spandrelref2_Digit (n0 : Int) : T :=
 cond (decide (n0 ≥ (48 : Int)))
  (T.ret (.bool (decide (n0 ≤ (57 : Int)))))
  (T.ret (.bool false))
theorem t_spandrelref2_Digit_eq (n0 : Int) : xfun Tryz.prog [] Tryz.f78 [.int .u8 n0] = t_spandrelref2_Digit n0 := by kernel_rfl

/-- The tree of 79. -/
def t_spandrelref2_Register (s0 : ByteArray) : T :=
 cond ((s0.size : Int) != (2 : Int))
  (T.ret (.tuple #[.int .i64 (0 : Int), .bool false, .bool false]))
  (T.need (((0 : Int) ≤ (1 : Int)) ∧ ((1 : Int) < (s0.size : Int))) <|
  T.need (((0 : Int) ≤ (0 : Int)) ∧ ((0 : Int) < (s0.size : Int))) <|
  cond ((sbyte s0 (0 : Int)) == (114 : Int))
   (cond (decide ((IntKind.wrap .i64 ((IntKind.wrap .i64 (sbyte s0 (1 : Int))) - (48 : Int))) ≥ (0 : Int)))
    (cond (decide ((IntKind.wrap .i64 ((IntKind.wrap .i64 (sbyte s0 (1 : Int))) - (48 : Int))) ≤ (7 : Int)))
     (T.ret (.tuple #[.int .i64 (IntKind.wrap .i64 ((IntKind.wrap .i64 (sbyte s0 (1 : Int))) - (48 : Int))), .bool false, .bool true]))
     (T.need (((0 : Int) ≤ (0 : Int)) ∧ ((0 : Int) < (s0.size : Int))) <|
     cond ((sbyte s0 (0 : Int)) == (122 : Int))
      (cond (decide ((IntKind.wrap .i64 ((IntKind.wrap .i64 (sbyte s0 (1 : Int))) - (48 : Int))) ≥ (0 : Int)))
       (cond (decide ((IntKind.wrap .i64 ((IntKind.wrap .i64 (sbyte s0 (1 : Int))) - (48 : Int))) ≤ (3 : Int)))
        (T.ret (.tuple #[.int .i64 (IntKind.wrap .i64 ((IntKind.wrap .i64 (sbyte s0 (1 : Int))) - (48 : Int))), .bool true, .bool true]))
        (T.ret (.tuple #[.int .i64 (0 : Int), .bool false, .bool false])))
       (T.ret (.tuple #[.int .i64 (0 : Int), .bool false, .bool false])))
      (T.ret (.tuple #[.int .i64 (0 : Int), .bool false, .bool false]))))
    (T.need (((0 : Int) ≤ (0 : Int)) ∧ ((0 : Int) < (s0.size : Int))) <|
    cond ((sbyte s0 (0 : Int)) == (122 : Int))
     (cond (decide ((IntKind.wrap .i64 ((IntKind.wrap .i64 (sbyte s0 (1 : Int))) - (48 : Int))) ≥ (0 : Int)))
      (cond (decide ((IntKind.wrap .i64 ((IntKind.wrap .i64 (sbyte s0 (1 : Int))) - (48 : Int))) ≤ (3 : Int)))
       (T.ret (.tuple #[.int .i64 (IntKind.wrap .i64 ((IntKind.wrap .i64 (sbyte s0 (1 : Int))) - (48 : Int))), .bool true, .bool true]))
       (T.ret (.tuple #[.int .i64 (0 : Int), .bool false, .bool false])))
      (T.ret (.tuple #[.int .i64 (0 : Int), .bool false, .bool false])))
     (T.ret (.tuple #[.int .i64 (0 : Int), .bool false, .bool false]))))
   (T.need (((0 : Int) ≤ (0 : Int)) ∧ ((0 : Int) < (s0.size : Int))) <|
   cond ((sbyte s0 (0 : Int)) == (122 : Int))
    (cond (decide ((IntKind.wrap .i64 ((IntKind.wrap .i64 (sbyte s0 (1 : Int))) - (48 : Int))) ≥ (0 : Int)))
     (cond (decide ((IntKind.wrap .i64 ((IntKind.wrap .i64 (sbyte s0 (1 : Int))) - (48 : Int))) ≤ (3 : Int)))
      (T.ret (.tuple #[.int .i64 (IntKind.wrap .i64 ((IntKind.wrap .i64 (sbyte s0 (1 : Int))) - (48 : Int))), .bool true, .bool true]))
      (T.ret (.tuple #[.int .i64 (0 : Int), .bool false, .bool false])))
     (T.ret (.tuple #[.int .i64 (0 : Int), .bool false, .bool false])))
    (T.ret (.tuple #[.int .i64 (0 : Int), .bool false, .bool false]))))
theorem t_spandrelref2_Register_eq (s0 : ByteArray) : xfun Tryz.prog [] Tryz.f79 [.string s0] = t_spandrelref2_Register s0 := by kernel_rfl

/-- The tree of 93. -/
def t_spandrelref5_Shape (n0 : Int) : T :=
 T.call Tryz.prog 102 [] false [(false, [.slice 170])] <| fun (p1 : Option Addr) (l2 : Nat) (l3 : Nat) =>
 cond (decide (n0 < (1 : Int)))
  (T.ret (.int .i64 (0 : Int)))
  (cond (decide (n0 > (l2 : Int)))
   (T.ret (.int .i64 (0 : Int)))
   (T.need (((0 : Int) ≤ (IntKind.wrap .i64 (n0 - (1 : Int)))) ∧ ((IntKind.wrap .i64 (n0 - (1 : Int))) < (l2 : Int))) <|
   T.osome p1 <| fun (a4 : Addr) =>
   T.loads ((a4.add ((Int.toNat (IntKind.wrap .i64 (n0 - (1 : Int)))) * 3)).add 2) [.int .i64] <| fun (n5 : Int) =>
   T.ret (.int .i64 n5)))
theorem t_spandrelref5_Shape_eq (n0 : Int) : xfun Tryz.prog [] Tryz.f93 [.int .i64 n0] = t_spandrelref5_Shape n0 := by kernel_rfl

/-- The tree of 73. -/
def t_spandrelref5_Spans (n0 : Int) : T :=
 T.call Tryz.prog 93 [.int .i64 n0] false [(false, [.int .i64])] <| fun (n1 : Int) =>
 cond (n1 == (12 : Int))
  (T.ret (.bool true))
  (T.call Tryz.prog 93 [.int .i64 n0] false [(false, [.int .i64])] <| fun (n2 : Int) =>
  T.ret (.bool (n2 == (13 : Int))))
theorem t_spandrelref5_Spans_eq (n0 : Int) : xfun Tryz.prog [] Tryz.f73 [.int .i64 n0] = t_spandrelref5_Spans n0 := by kernel_rfl

/-- The tree of 95. -/
def t_spandrelref1_Fits (n0 : Int) (n1 : Int) : T :=
 cond (n1 == (1 : Int))
  (cond (decide (n0 ≥ (-128 : Int)))
   (T.ret (.bool (decide (n0 ≤ (127 : Int)))))
   (T.ret (.bool false)))
  (cond (n1 == (2 : Int))
   (cond (decide (n0 ≥ (-32768 : Int)))
    (T.ret (.bool (decide (n0 ≤ (32767 : Int)))))
    (T.ret (.bool false)))
   (cond (n1 == (4 : Int))
    (T.ret (.bool true))
    (T.ret (.bool false))))
theorem t_spandrelref1_Fits_eq (n0 : Int) (n1 : Int) : xfun Tryz.prog [] Tryz.f95 [.int .i32 n0, .int .i64 n1] = t_spandrelref1_Fits n0 n1 := by kernel_rfl

/-- The tree of 74. -/
def t_spandrelref5_Check (n0 : Int) (n1_0 : Int) (n2_0 : Int) (n3_0 : Int) (n4_0 : Int) : T :=
 T.new [.int .i64 n0, .int .i64 n1_0, .int .i64 n2_0, .int .i32 n3_0, .int .i64 n4_0] 100 <| fun (a1 : Addr) =>
 T.loads a1 [.int .i64] <| fun (n2 : Int) =>
 T.call Tryz.prog 93 [.int .i64 n2] false [(false, [.int .i64])] <| fun (n3 : Int) =>
 cond (n3 == (0 : Int))
  (T.ret (.int .i64 (11 : Int)))
  (T.loads a1 [.int .i64, .int .i64, .int .i64, .int .i32, .int .i64] <| fun (n4 : Int) (n5 : Int) (n6 : Int) (n7 : Int) (n8 : Int) =>
  T.call Tryz.prog 94 [.agg #[.int .i64 n4, .int .i64 n5, .int .i64 n6, .int .i32 n7, .int .i64 n8]] false [(false, [.bool])] <| fun (b9 : Bool) =>
  cond (!b9)
   (T.ret (.int .i64 (12 : Int)))
   (cond (n3 == (12 : Int))
    (T.loads (a1.add 4) [.int .i64] <| fun (n10 : Int) =>
    cond (n10 != (1 : Int))
     (T.loads (a1.add 4) [.int .i64] <| fun (n11 : Int) =>
     cond (n11 != (2 : Int))
      (T.loads (a1.add 4) [.int .i64] <| fun (n12 : Int) =>
      cond (n12 != (4 : Int))
       (T.ret (.int .i64 (13 : Int)))
       (T.loads (a1.add 3) [.int .i32] <| fun (n13 : Int) =>
       T.loads (a1.add 4) [.int .i64] <| fun (n14 : Int) =>
       T.call Tryz.prog 95 [.int .i32 n13, .int .i64 n14] false [(false, [.bool])] <| fun (b15 : Bool) =>
       cond (!b15)
        (T.ret (.int .i64 (13 : Int)))
        (T.ret (.int .i64 (0 : Int)))))
      (T.loads (a1.add 3) [.int .i32] <| fun (n12 : Int) =>
      T.loads (a1.add 4) [.int .i64] <| fun (n13 : Int) =>
      T.call Tryz.prog 95 [.int .i32 n12, .int .i64 n13] false [(false, [.bool])] <| fun (b14 : Bool) =>
      cond (!b14)
       (T.ret (.int .i64 (13 : Int)))
       (T.ret (.int .i64 (0 : Int)))))
     (T.loads (a1.add 3) [.int .i32] <| fun (n11 : Int) =>
     T.loads (a1.add 4) [.int .i64] <| fun (n12 : Int) =>
     T.call Tryz.prog 95 [.int .i32 n11, .int .i64 n12] false [(false, [.bool])] <| fun (b13 : Bool) =>
     cond (!b13)
      (T.ret (.int .i64 (13 : Int)))
      (T.ret (.int .i64 (0 : Int)))))
    (cond (n3 == (13 : Int))
     (T.loads (a1.add 4) [.int .i64] <| fun (n10 : Int) =>
     cond (n10 != (1 : Int))
      (T.loads (a1.add 4) [.int .i64] <| fun (n11 : Int) =>
      cond (n11 != (2 : Int))
       (T.loads (a1.add 4) [.int .i64] <| fun (n12 : Int) =>
       cond (n12 != (4 : Int))
        (T.ret (.int .i64 (13 : Int)))
        (T.loads (a1.add 3) [.int .i32] <| fun (n13 : Int) =>
        T.loads (a1.add 4) [.int .i64] <| fun (n14 : Int) =>
        T.call Tryz.prog 95 [.int .i32 n13, .int .i64 n14] false [(false, [.bool])] <| fun (b15 : Bool) =>
        cond (!b15)
         (T.ret (.int .i64 (13 : Int)))
         (T.ret (.int .i64 (0 : Int)))))
       (T.loads (a1.add 3) [.int .i32] <| fun (n12 : Int) =>
       T.loads (a1.add 4) [.int .i64] <| fun (n13 : Int) =>
       T.call Tryz.prog 95 [.int .i32 n12, .int .i64 n13] false [(false, [.bool])] <| fun (b14 : Bool) =>
       cond (!b14)
        (T.ret (.int .i64 (13 : Int)))
        (T.ret (.int .i64 (0 : Int)))))
      (T.loads (a1.add 3) [.int .i32] <| fun (n11 : Int) =>
      T.loads (a1.add 4) [.int .i64] <| fun (n12 : Int) =>
      T.call Tryz.prog 95 [.int .i32 n11, .int .i64 n12] false [(false, [.bool])] <| fun (b13 : Bool) =>
      cond (!b13)
       (T.ret (.int .i64 (13 : Int)))
       (T.ret (.int .i64 (0 : Int)))))
     (T.loads (a1.add 4) [.int .i64] <| fun (n10 : Int) =>
     cond (n10 != (0 : Int))
      (T.ret (.int .i64 (13 : Int)))
      (T.loads (a1.add 3) [.int .i32] <| fun (n11 : Int) =>
      cond (n3 == (8 : Int))
       (T.loads (a1.add 3) [.int .i32] <| fun (n12 : Int) =>
       cond (decide (n12 ≥ (-128 : Int)))
        (T.loads (a1.add 3) [.int .i32] <| fun (n13 : Int) =>
        cond (!(decide (n13 ≤ (127 : Int))))
         (T.ret (.int .i64 (13 : Int)))
         (T.ret (.int .i64 (0 : Int))))
        (T.ret (.int .i64 (13 : Int))))
       (cond (n3 == (9 : Int))
        (T.loads (a1.add 3) [.int .i32] <| fun (n12 : Int) =>
        cond (decide (n12 ≥ (0 : Int)))
         (T.loads (a1.add 3) [.int .i32] <| fun (n13 : Int) =>
         cond (!(decide (n13 ≤ (255 : Int))))
          (T.ret (.int .i64 (13 : Int)))
          (T.ret (.int .i64 (0 : Int))))
         (T.ret (.int .i64 (13 : Int))))
        (cond (n3 == (11 : Int))
         (T.loads (a1.add 3) [.int .i32] <| fun (n12 : Int) =>
         cond (decide (n12 ≥ (0 : Int)))
          (T.loads (a1.add 3) [.int .i32] <| fun (n13 : Int) =>
          cond (!(decide (n13 ≤ (4095 : Int))))
           (T.ret (.int .i64 (13 : Int)))
           (T.ret (.int .i64 (0 : Int))))
          (T.ret (.int .i64 (13 : Int))))
         (cond (n3 == (10 : Int))
          (cond (n3 == (10 : Int))
           (T.ret (.int .i64 (0 : Int)))
           (cond (!(n11 == (0 : Int)))
            (T.ret (.int .i64 (13 : Int)))
            (T.ret (.int .i64 (0 : Int)))))
          (cond (n3 == (7 : Int))
           (T.ret (.int .i64 (0 : Int)))
           (cond (!(n11 == (0 : Int)))
            (T.ret (.int .i64 (13 : Int)))
            (T.ret (.int .i64 (0 : Int)))))))))))))
theorem t_spandrelref5_Check_eq (n0 : Int) (n1_0 : Int) (n2_0 : Int) (n3_0 : Int) (n4_0 : Int) : xfun Tryz.prog [] Tryz.f74 [.agg #[.int .i64 n0, .int .i64 n1_0, .int .i64 n2_0, .int .i32 n3_0, .int .i64 n4_0]] = t_spandrelref5_Check n0 n1_0 n2_0 n3_0 n4_0 := by kernel_rfl

/-- The tree of 75. -/
def t_spandrelref8_HasE (n0 : Int) : T :=
 T.call Tryz.prog 93 [.int .i64 n0] false [(false, [.int .i64])] <| fun (n1 : Int) =>
 cond (n1 == (10 : Int))
  (T.ret (.bool true))
  (cond (n1 == (11 : Int))
   (T.ret (.bool true))
   (cond (n1 == (12 : Int))
    (T.ret (.bool true))
    (T.ret (.bool (n1 == (13 : Int))))))
theorem t_spandrelref8_HasE_eq (n0 : Int) : xfun Tryz.prog [] Tryz.f75 [.int .i64 n0] = t_spandrelref8_HasE n0 := by kernel_rfl

/-- The tree of 72. -/
def t_spandrelref8_bare (n0 : Int) (s1_0 : ByteArray) (n2_0 : Int) (n3_0 : Int) (n4_0 : Int) (n5_0 : Int) (n6_0 : Int) (pp07 : Option Addr) (ll07 cc07 : Nat) (n8_0 : Int) (n9_0 : Int) (b1 : Bool) (b2 : Bool) (b3 : Bool) (b4 : Bool) : T :=
 T.new [.int .i64 n0, .string s1_0, .int .i64 n2_0, .int .i64 n3_0, .int .i64 n4_0, .int .i32 n5_0, .int .i64 n6_0, .slice pp07 ll07 cc07, .int .u32 n8_0, .int .i64 n9_0] 102 <| fun (a5 : Addr) =>
 cond (!b1)
  (cond (!b2)
   (cond (!b3)
    (cond (!b4)
     (T.ret (.bool true))
     (T.loads (a5.add 9) [.int .i64] <| fun (n6 : Int) =>
     T.ret (.bool (n6 == (0 : Int)))))
    (T.loads (a5.add 7) [.slice 104] <| fun (p6 : Option Addr) (l7 : Nat) (l8 : Nat) =>
    cond ((l7 : Int) == (0 : Int))
     (T.loads ((a5.add 7).add 1) [.int .u32] <| fun (n9 : Int) =>
     cond (n9 == (0 : Int))
      (cond (!b4)
       (T.ret (.bool true))
       (T.loads (a5.add 9) [.int .i64] <| fun (n10 : Int) =>
       T.ret (.bool (n10 == (0 : Int)))))
      (T.ret (.bool false)))
     (T.ret (.bool false))))
   (T.loads (a5.add 2) [.int .i64, .int .i64, .int .i64, .int .i32, .int .i64] <| fun (n6 : Int) (n7 : Int) (n8 : Int) (n9 : Int) (n10 : Int) =>
   T.sem Tryz.prog (Sx.cmpS (BinOp.eql) 100 (Operand.tmp 23) (Operand.tmp 24) (.agg #[.int .i64 n6, .int .i64 n7, .int .i64 n8, .int .i32 n9, .int .i64 n10]) (.agg #[.int .i64 (0 : Int), .int .i64 (0 : Int), .int .i64 (0 : Int), .int .i32 (0 : Int), .int .i64 (0 : Int)])) false [(false, [.bool])] <| fun (b11 : Bool) =>
   cond b11
    (cond (!b3)
     (cond (!b4)
      (T.ret (.bool true))
      (T.loads (a5.add 9) [.int .i64] <| fun (n12 : Int) =>
      T.ret (.bool (n12 == (0 : Int)))))
     (T.loads (a5.add 7) [.slice 104] <| fun (p12 : Option Addr) (l13 : Nat) (l14 : Nat) =>
     cond ((l13 : Int) == (0 : Int))
      (T.loads ((a5.add 7).add 1) [.int .u32] <| fun (n15 : Int) =>
      cond (n15 == (0 : Int))
       (cond (!b4)
        (T.ret (.bool true))
        (T.loads (a5.add 9) [.int .i64] <| fun (n16 : Int) =>
        T.ret (.bool (n16 == (0 : Int)))))
       (T.ret (.bool false)))
      (T.ret (.bool false))))
    (T.ret (.bool false))))
  (T.loads (a5.add 1) [.string] <| fun (s6 : ByteArray) =>
  cond ((ByteArray.toList s6) == [])
   (cond (!b2)
    (cond (!b3)
     (cond (!b4)
      (T.ret (.bool true))
      (T.loads (a5.add 9) [.int .i64] <| fun (n7 : Int) =>
      T.ret (.bool (n7 == (0 : Int)))))
     (T.loads (a5.add 7) [.slice 104] <| fun (p7 : Option Addr) (l8 : Nat) (l9 : Nat) =>
     cond ((l8 : Int) == (0 : Int))
      (T.loads ((a5.add 7).add 1) [.int .u32] <| fun (n10 : Int) =>
      cond (n10 == (0 : Int))
       (cond (!b4)
        (T.ret (.bool true))
        (T.loads (a5.add 9) [.int .i64] <| fun (n11 : Int) =>
        T.ret (.bool (n11 == (0 : Int)))))
       (T.ret (.bool false)))
      (T.ret (.bool false))))
    (T.loads (a5.add 2) [.int .i64, .int .i64, .int .i64, .int .i32, .int .i64] <| fun (n7 : Int) (n8 : Int) (n9 : Int) (n10 : Int) (n11 : Int) =>
    T.sem Tryz.prog (Sx.cmpS (BinOp.eql) 100 (Operand.tmp 23) (Operand.tmp 24) (.agg #[.int .i64 n7, .int .i64 n8, .int .i64 n9, .int .i32 n10, .int .i64 n11]) (.agg #[.int .i64 (0 : Int), .int .i64 (0 : Int), .int .i64 (0 : Int), .int .i32 (0 : Int), .int .i64 (0 : Int)])) false [(false, [.bool])] <| fun (b12 : Bool) =>
    cond b12
     (cond (!b3)
      (cond (!b4)
       (T.ret (.bool true))
       (T.loads (a5.add 9) [.int .i64] <| fun (n13 : Int) =>
       T.ret (.bool (n13 == (0 : Int)))))
      (T.loads (a5.add 7) [.slice 104] <| fun (p13 : Option Addr) (l14 : Nat) (l15 : Nat) =>
      cond ((l14 : Int) == (0 : Int))
       (T.loads ((a5.add 7).add 1) [.int .u32] <| fun (n16 : Int) =>
       cond (n16 == (0 : Int))
        (cond (!b4)
         (T.ret (.bool true))
         (T.loads (a5.add 9) [.int .i64] <| fun (n17 : Int) =>
         T.ret (.bool (n17 == (0 : Int)))))
        (T.ret (.bool false)))
       (T.ret (.bool false))))
     (T.ret (.bool false))))
   (T.ret (.bool false)))
theorem t_spandrelref8_bare_eq (n0 : Int) (s1_0 : ByteArray) (n2_0 : Int) (n3_0 : Int) (n4_0 : Int) (n5_0 : Int) (n6_0 : Int) (pp07 : Option Addr) (ll07 cc07 : Nat) (n8_0 : Int) (n9_0 : Int) (b1 : Bool) (b2 : Bool) (b3 : Bool) (b4 : Bool) : xfun Tryz.prog [] Tryz.f72 [.agg #[.int .i64 n0, .string s1_0, .int .i64 n2_0, .int .i64 n3_0, .int .i64 n4_0, .int .i32 n5_0, .int .i64 n6_0, .slice pp07 ll07 cc07, .int .u32 n8_0, .int .i64 n9_0], .bool b1, .bool b2, .bool b3, .bool b4] = t_spandrelref8_bare n0 s1_0 n2_0 n3_0 n4_0 n5_0 n6_0 pp07 ll07 cc07 n8_0 n9_0 b1 b2 b3 b4 := by kernel_rfl

/-- The tree of 76. -/
def t_spandrelref8_power (n0 : Int) : T :=
 T.loop [(false, [.bool]), (false, [.int .i64])] [.bool false, .int .i64 (1 : Int)] <| fun (b1 : Bool) (n2 : Int) =>
 cond (decide (n2 ≤ (256 : Int)))
  (cond (n0 == n2)
   (T.ret (.bool true))
   (T.again 0 [.bool b1, .int .i64 (IntKind.wrap .i64 ((2 : Int) * n2))]))
  (T.ret (.bool false))
theorem t_spandrelref8_power_eq (n0 : Int) : xfun Tryz.prog [] Tryz.f76 [.int .i64 n0] = t_spandrelref8_power n0 := by kernel_rfl

/-- The tree of 45. -/
def t_spandrelref9_All (pp00 : Option Addr) (ll00 cc00 : Nat) (pp01 : Option Addr) (ll01 cc01 : Nat) (pp02 : Option Addr) (ll02 cc02 : Nat) (pp03 : Option Addr) (ll03 cc03 : Nat) : T :=
 T.new [.slice pp00 ll00 cc00, .slice pp01 ll01 cc01, .slice pp02 ll02 cc02, .slice pp03 ll03 cc03] 28 <| fun (a1 : Addr) =>
 T.loads a1 [.slice 102] <| fun (p2 : Option Addr) (l3 : Nat) (l4 : Nat) =>
 T.loads (a1.add 1) [.slice 102] <| fun (p5 : Option Addr) (l6 : Nat) (l7 : Nat) =>
 T.call Tryz.prog 80 [.slice p2 l3 l4] false [(false, [.slice 9])] <| fun (p8 : Option Addr) (l9 : Nat) (l10 : Nat) =>
 T.stable [((a1.add 1), [.slice p5 l6 l7])] <|
 T.call Tryz.prog 80 [.slice p5 l6 l7] false [(false, [.slice 9])] <| fun (p11 : Option Addr) (l12 : Nat) (l13 : Nat) =>
 T.stable [(a1, [.slice p2 l3 l4])] <|
 T.sem Tryz.prog (Builtin.append_ #[26, 26] 26 #[.slice p8 l9 l10, .slice p11 l12 l13]) false [(false, [.slice 0])] <| fun (p14 : Option Addr) (l15 : Nat) (l16 : Nat) =>
 T.stable [((a1.add 1), [.slice p5 l6 l7]), (a1, [.slice p2 l3 l4])] <|
 T.loop [(false, [.slice 0]), (false, [.int .i64])] [.slice p14 l15 l16, .int .i64 (0 : Int)] <| fun (p17 : Option Addr) (l18 : Nat) (l19 : Nat) (n20 : Int) =>
 T.loads (a1.add 2) [.slice 78] <| fun (p21 : Option Addr) (l22 : Nat) (l23 : Nat) =>
 cond (decide (n20 < (l22 : Int)))
  (T.loads (a1.add 2) [.slice 78] <| fun (p24 : Option Addr) (l25 : Nat) (l26 : Nat) =>
  T.need (((0 : Int) ≤ n20) ∧ (n20 < (l25 : Int))) <|
  T.osome p24 <| fun (a27 : Addr) =>
  T.loads (a27.add ((Int.toNat n20) * 3)) [.string] <| fun (s28 : ByteArray) =>
  T.sem Tryz.prog (Instr.buildSlice 26 1 #[(0, .string s28)]) false [(false, [.slice 0])] <| fun (p29 : Option Addr) (l30 : Nat) (l31 : Nat) =>
  T.sem Tryz.prog (Builtin.append_ #[26, 26] 26 #[.slice p17 l18 l19, .slice p29 l30 l31]) false [(false, [.slice 0])] <| fun (p32 : Option Addr) (l33 : Nat) (l34 : Nat) =>
  T.again 0 [.slice p32 l33 l34, .int .i64 (IntKind.wrap .i64 (n20 + (1 : Int)))])
  (T.ret (.slice p17 l18 l19))
theorem t_spandrelref9_All_eq (pp00 : Option Addr) (ll00 cc00 : Nat) (pp01 : Option Addr) (ll01 cc01 : Nat) (pp02 : Option Addr) (ll02 cc02 : Nat) (pp03 : Option Addr) (ll03 cc03 : Nat) : xfun Tryz.prog [] Tryz.f45 [.agg #[.slice pp00 ll00 cc00, .slice pp01 ll01 cc01, .slice pp02 ll02 cc02, .slice pp03 ll03 cc03]] = t_spandrelref9_All pp00 ll00 cc00 pp01 ll01 cc01 pp02 ll02 cc02 pp03 ll03 cc03 := by kernel_rfl

/-- The tree of 46. -/
def t_spandrelref9_Sorted (pp00 : Option Addr) (ll00 cc00 : Nat) : T :=
 T.loop [(false, [.slice 0]), (false, [.int .i64])] [.slice none 0 0, .int .i64 (0 : Int)] <| fun (p1 : Option Addr) (l2 : Nat) (l3 : Nat) (n4 : Int) =>
 cond (decide (n4 < (ll00 : Int)))
  (T.need (((0 : Int) ≤ n4) ∧ (n4 < (ll00 : Int))) <|
  T.osome pp00 <| fun (a5 : Addr) =>
  T.loads (a5.add ((Int.toNat n4) * 1)) [.string] <| fun (s6 : ByteArray) =>
  T.call Tryz.prog 47 [.slice p1 l2 l3, .string s6] false [(false, [.bool])] <| fun (b7 : Bool) =>
  cond b7
   (T.again 0 [.slice p1 l2 l3, .int .i64 (IntKind.wrap .i64 (n4 + (1 : Int)))])
   (T.need (((0 : Int) ≤ n4) ∧ (n4 < (ll00 : Int))) <|
   T.osome pp00 <| fun (a8 : Addr) =>
   T.loads (a8.add ((Int.toNat n4) * 1)) [.string] <| fun (s9 : ByteArray) =>
   T.sem Tryz.prog (Instr.buildSlice 26 1 #[(0, .string s9)]) false [(false, [.slice 0])] <| fun (p10 : Option Addr) (l11 : Nat) (l12 : Nat) =>
   T.sem Tryz.prog (Builtin.append_ #[26, 26] 26 #[.slice p1 l2 l3, .slice p10 l11 l12]) false [(false, [.slice 0])] <| fun (p13 : Option Addr) (l14 : Nat) (l15 : Nat) =>
   T.loop [(false, [.int .i64])] [.int .i64 (l2 : Int)] <| fun (n16 : Int) =>
   cond (decide (n16 > (0 : Int)))
    (T.need (((0 : Int) ≤ (IntKind.wrap .i64 (n16 - (1 : Int)))) ∧ ((IntKind.wrap .i64 (n16 - (1 : Int))) < (l14 : Int))) <|
    T.osome p13 <| fun (a17 : Addr) =>
    T.loads (a17.add ((Int.toNat (IntKind.wrap .i64 (n16 - (1 : Int)))) * 1)) [.string] <| fun (s18 : ByteArray) =>
    T.need (((0 : Int) ≤ n4) ∧ (n4 < (ll00 : Int))) <|
    T.osome pp00 <| fun (a19 : Addr) =>
    T.loads (a19.add ((Int.toNat n4) * 1)) [.string] <| fun (s20 : ByteArray) =>
    cond (!((Op.bytesLess (ByteArray.toList s18) (ByteArray.toList s20)) || ((ByteArray.toList s18) == (ByteArray.toList s20))))
     (T.need (((0 : Int) ≤ (IntKind.wrap .i64 (n16 - (1 : Int)))) ∧ ((IntKind.wrap .i64 (n16 - (1 : Int))) < (l14 : Int))) <|
     T.osome p13 <| fun (a21 : Addr) =>
     T.loads (a21.add ((Int.toNat (IntKind.wrap .i64 (n16 - (1 : Int)))) * 1)) [.string] <| fun (s22 : ByteArray) =>
     T.need (((0 : Int) ≤ n16) ∧ (n16 < (l14 : Int))) <|
     T.osome p13 <| fun (a23 : Addr) =>
     T.stores (a23.add ((Int.toNat n16) * 1)) [.string s22] <|
     T.again 1 [.int .i64 (IntKind.wrap .i64 (n16 - (1 : Int)))])
     (T.need (((0 : Int) ≤ n4) ∧ (n4 < (ll00 : Int))) <|
     T.osome pp00 <| fun (a21 : Addr) =>
     T.loads (a21.add ((Int.toNat n4) * 1)) [.string] <| fun (s22 : ByteArray) =>
     T.need (((0 : Int) ≤ n16) ∧ (n16 < (l14 : Int))) <|
     T.osome p13 <| fun (a23 : Addr) =>
     T.stores (a23.add ((Int.toNat n16) * 1)) [.string s22] <|
     T.again 0 [.slice p13 l14 l15, .int .i64 (IntKind.wrap .i64 (n4 + (1 : Int)))]))
    (T.need (((0 : Int) ≤ n4) ∧ (n4 < (ll00 : Int))) <|
    T.osome pp00 <| fun (a17 : Addr) =>
    T.loads (a17.add ((Int.toNat n4) * 1)) [.string] <| fun (s18 : ByteArray) =>
    T.need (((0 : Int) ≤ n16) ∧ (n16 < (l14 : Int))) <|
    T.osome p13 <| fun (a19 : Addr) =>
    T.stores (a19.add ((Int.toNat n16) * 1)) [.string s18] <|
    T.again 0 [.slice p13 l14 l15, .int .i64 (IntKind.wrap .i64 (n4 + (1 : Int)))])))
  (T.ret (.slice p1 l2 l3))
theorem t_spandrelref9_Sorted_eq (pp00 : Option Addr) (ll00 cc00 : Nat) : xfun Tryz.prog [] Tryz.f46 [.slice pp00 ll00 cc00] = t_spandrelref9_Sorted pp00 ll00 cc00 := by kernel_rfl

/-- The tree of 47. -/
def t_spandrelref9_Has (pp00 : Option Addr) (ll00 cc00 : Nat) (s1 : ByteArray) : T :=
 T.loop [(false, [.bool]), (false, [.int .i64])] [.bool false, .int .i64 (0 : Int)] <| fun (b2 : Bool) (n3 : Int) =>
 cond (decide (n3 < (ll00 : Int)))
  (T.need (((0 : Int) ≤ n3) ∧ (n3 < (ll00 : Int))) <|
  T.osome pp00 <| fun (a4 : Addr) =>
  T.loads (a4.add ((Int.toNat n3) * 1)) [.string] <| fun (s5 : ByteArray) =>
  cond ((ByteArray.toList s5) == (ByteArray.toList s1))
   (T.ret (.bool true))
   (T.again 0 [.bool b2, .int .i64 (IntKind.wrap .i64 (n3 + (1 : Int)))]))
  (T.ret (.bool false))
theorem t_spandrelref9_Has_eq (pp00 : Option Addr) (ll00 cc00 : Nat) (s1 : ByteArray) : xfun Tryz.prog [] Tryz.f47 [.slice pp00 ll00 cc00, .string s1] = t_spandrelref9_Has pp00 ll00 cc00 s1 := by kernel_rfl

/-- The tree of 80. -/
def t_spandrelref9_labels (pp00 : Option Addr) (ll00 cc00 : Nat) : T :=
 T.loop [(false, [.slice 0]), (false, [.int .i64])] [.slice none 0 0, .int .i64 (0 : Int)] <| fun (p1 : Option Addr) (l2 : Nat) (l3 : Nat) (n4 : Int) =>
 cond (decide (n4 < (ll00 : Int)))
  (T.need (((0 : Int) ≤ n4) ∧ (n4 < (ll00 : Int))) <|
  T.osome pp00 <| fun (a5 : Addr) =>
  T.loads (a5.add ((Int.toNat n4) * 10)) [.int .i64] <| fun (n6 : Int) =>
  cond (n6 == (1 : Int))
   (T.need (((0 : Int) ≤ n4) ∧ (n4 < (ll00 : Int))) <|
   T.osome pp00 <| fun (a7 : Addr) =>
   T.loads ((a7.add ((Int.toNat n4) * 10)).add 1) [.string] <| fun (s8 : ByteArray) =>
   T.sem Tryz.prog (Instr.buildSlice 26 1 #[(0, .string s8)]) false [(false, [.slice 0])] <| fun (p9 : Option Addr) (l10 : Nat) (l11 : Nat) =>
   T.sem Tryz.prog (Builtin.append_ #[26, 26] 26 #[.slice p1 l2 l3, .slice p9 l10 l11]) false [(false, [.slice 0])] <| fun (p12 : Option Addr) (l13 : Nat) (l14 : Nat) =>
   T.again 0 [.slice p12 l13 l14, .int .i64 (IntKind.wrap .i64 (n4 + (1 : Int)))])
   (T.again 0 [.slice p1 l2 l3, .int .i64 (IntKind.wrap .i64 (n4 + (1 : Int)))]))
  (T.ret (.slice p1 l2 l3))
theorem t_spandrelref9_labels_eq (pp00 : Option Addr) (ll00 cc00 : Nat) : xfun Tryz.prog [] Tryz.f80 [.slice pp00 ll00 cc00] = t_spandrelref9_labels pp00 ll00 cc00 := by kernel_rfl

/-- The tree of 17. -/
def t_spandrelref9_Right (pp00 : Option Addr) (ll00 cc00 : Nat) (pp01 : Option Addr) (ll01 cc01 : Nat) (pp02 : Option Addr) (ll02 cc02 : Nat) (pp03 : Option Addr) (ll03 cc03 : Nat) : T :=
 T.new [.slice pp00 ll00 cc00, .slice pp01 ll01 cc01, .slice pp02 ll02 cc02, .slice pp03 ll03 cc03] 28 <| fun (a1 : Addr) =>
 T.loads a1 [.slice 102] <| fun (p2 : Option Addr) (l3 : Nat) (l4 : Nat) =>
 T.loads (a1.add 1) [.slice 102] <| fun (p5 : Option Addr) (l6 : Nat) (l7 : Nat) =>
 cond (decide ((IntKind.wrap .i64 ((l3 : Int) + (l6 : Int))) > (8192 : Int)))
  (T.ret (.int .i64 (4 : Int)))
  (T.loads (a1.add 2) [.slice 78] <| fun (p8 : Option Addr) (l9 : Nat) (l10 : Nat) =>
  cond (decide ((l9 : Int) > (8192 : Int)))
   (T.ret (.int .i64 (4 : Int)))
   (T.loop [(false, [.int .i64]), (false, [.int .i64])] [.int .i64 (0 : Int), .int .i64 (0 : Int)] <| fun (n11 : Int) (n12 : Int) =>
   T.loads a1 [.slice 102] <| fun (p13 : Option Addr) (l14 : Nat) (l15 : Nat) =>
   cond (decide (n12 < (l14 : Int)))
    (T.loads a1 [.slice 102] <| fun (p16 : Option Addr) (l17 : Nat) (l18 : Nat) =>
    T.need (((0 : Int) ≤ n12) ∧ (n12 < (l17 : Int))) <|
    T.osome p16 <| fun (a19 : Addr) =>
    T.loads (a19.add ((Int.toNat n12) * 10)) [.int .i64, .string, .int .i64, .int .i64, .int .i64, .int .i32, .int .i64, .slice 104, .int .u32, .int .i64] <| fun (n20 : Int) (s21 : ByteArray) (n22 : Int) (n23 : Int) (n24 : Int) (n25 : Int) (n26 : Int) (p27 : Option Addr) (l28 : Nat) (l29 : Nat) (n30 : Int) (n31 : Int) =>
    T.call Tryz.prog 42 [.agg #[.int .i64 n20, .string s21, .int .i64 n22, .int .i64 n23, .int .i64 n24, .int .i32 n25, .int .i64 n26, .slice p27 l28 l29, .int .u32 n30, .int .i64 n31], .int .i64 (0 : Int)] false [(false, [.int .i64])] <| fun (n32 : Int) =>
    cond (n32 != (0 : Int))
     (T.ret (.int .i64 (31 : Int)))
     (T.again 0 [.int .i64 n11, .int .i64 (IntKind.wrap .i64 (n12 + (1 : Int)))]))
    (T.loop [(false, [.int .i64]), (false, [.int .i64])] [.int .i64 n11, .int .i64 (0 : Int)] <| fun (n16 : Int) (n17 : Int) =>
    T.loads (a1.add 1) [.slice 102] <| fun (p18 : Option Addr) (l19 : Nat) (l20 : Nat) =>
    cond (decide (n17 < (l19 : Int)))
     (T.loads (a1.add 1) [.slice 102] <| fun (p21 : Option Addr) (l22 : Nat) (l23 : Nat) =>
     T.need (((0 : Int) ≤ n17) ∧ (n17 < (l22 : Int))) <|
     T.osome p21 <| fun (a24 : Addr) =>
     T.loads (a24.add ((Int.toNat n17) * 10)) [.int .i64, .string, .int .i64, .int .i64, .int .i64, .int .i32, .int .i64, .slice 104, .int .u32, .int .i64] <| fun (n25 : Int) (s26 : ByteArray) (n27 : Int) (n28 : Int) (n29 : Int) (n30 : Int) (n31 : Int) (p32 : Option Addr) (l33 : Nat) (l34 : Nat) (n35 : Int) (n36 : Int) =>
     T.call Tryz.prog 42 [.agg #[.int .i64 n25, .string s26, .int .i64 n27, .int .i64 n28, .int .i64 n29, .int .i32 n30, .int .i64 n31, .slice p32 l33 l34, .int .u32 n35, .int .i64 n36], .int .i64 (1 : Int)] false [(false, [.int .i64])] <| fun (n37 : Int) =>
     cond (n37 != (0 : Int))
      (T.ret (.int .i64 (31 : Int)))
      (T.again 1 [.int .i64 n16, .int .i64 (IntKind.wrap .i64 (n17 + (1 : Int)))]))
     (T.loop [(false, [.int .i64]), (false, [.int .i64])] [.int .i64 n16, .int .i64 (0 : Int)] <| fun (n21 : Int) (n22 : Int) =>
     T.loads (a1.add 2) [.slice 78] <| fun (p23 : Option Addr) (l24 : Nat) (l25 : Nat) =>
     cond (decide (n22 < (l24 : Int)))
      (T.loads (a1.add 2) [.slice 78] <| fun (p26 : Option Addr) (l27 : Nat) (l28 : Nat) =>
      T.need (((0 : Int) ≤ n22) ∧ (n22 < (l27 : Int))) <|
      T.osome p26 <| fun (a29 : Addr) =>
      T.loads (a29.add ((Int.toNat n22) * 3)) [.string] <| fun (s30 : ByteArray) =>
      T.call Tryz.prog 43 [.string s30] false [(false, [.bool])] <| fun (b31 : Bool) =>
      cond (!b31)
       (T.ret (.int .i64 (31 : Int)))
       (T.loads (a1.add 2) [.slice 78] <| fun (p32 : Option Addr) (l33 : Nat) (l34 : Nat) =>
       T.need (((0 : Int) ≤ n22) ∧ (n22 < (l33 : Int))) <|
       T.osome p32 <| fun (a35 : Addr) =>
       T.loads ((a35.add ((Int.toNat n22) * 3)).add 1) [.slice 104, .int .u32] <| fun (p36 : Option Addr) (l37 : Nat) (l38 : Nat) (n39 : Int) =>
       T.call Tryz.prog 44 [.agg #[.slice p36 l37 l38, .int .u32 n39]] false [(false, [.bool])] <| fun (b40 : Bool) =>
       cond (!b40)
        (T.ret (.int .i64 (31 : Int)))
        (T.again 2 [.int .i64 n21, .int .i64 (IntKind.wrap .i64 (n22 + (1 : Int)))])))
      (T.loads a1 [.slice 102, .slice 102, .slice 78, .slice 9] <| fun (p26 : Option Addr) (l27 : Nat) (l28 : Nat) (p29 : Option Addr) (l30 : Nat) (l31 : Nat) (p32 : Option Addr) (l33 : Nat) (l34 : Nat) (p35 : Option Addr) (l36 : Nat) (l37 : Nat) =>
      T.call Tryz.prog 45 [.agg #[.slice p26 l27 l28, .slice p29 l30 l31, .slice p32 l33 l34, .slice p35 l36 l37]] false [(false, [.slice 9])] <| fun (p38 : Option Addr) (l39 : Nat) (l40 : Nat) =>
      T.call Tryz.prog 46 [.slice p38 l39 l40] false [(false, [.slice 9])] <| fun (p41 : Option Addr) (l42 : Nat) (l43 : Nat) =>
      cond ((l42 : Int) != (l39 : Int))
       (T.ret (.int .i64 (31 : Int)))
       (T.loop [(false, [.int .i64]), (false, [.int .i64])] [.int .i64 n21, .int .i64 (0 : Int)] <| fun (n44 : Int) (n45 : Int) =>
       T.loads (a1.add 3) [.slice 9] <| fun (p46 : Option Addr) (l47 : Nat) (l48 : Nat) =>
       cond (decide (n45 < (l47 : Int)))
        (cond (decide (n45 > (0 : Int)))
         (T.loads (a1.add 3) [.slice 9] <| fun (p49 : Option Addr) (l50 : Nat) (l51 : Nat) =>
         T.need (((0 : Int) ≤ n45) ∧ (n45 < (l50 : Int))) <|
         T.osome p49 <| fun (a52 : Addr) =>
         T.loads (a52.add ((Int.toNat n45) * 1)) [.string] <| fun (s53 : ByteArray) =>
         T.loads (a1.add 3) [.slice 9] <| fun (p54 : Option Addr) (l55 : Nat) (l56 : Nat) =>
         T.need (((0 : Int) ≤ (IntKind.wrap .i64 (n45 - (1 : Int)))) ∧ ((IntKind.wrap .i64 (n45 - (1 : Int))) < (l55 : Int))) <|
         T.osome p54 <| fun (a57 : Addr) =>
         T.loads (a57.add ((Int.toNat (IntKind.wrap .i64 (n45 - (1 : Int)))) * 1)) [.string] <| fun (s58 : ByteArray) =>
         cond ((Op.bytesLess (ByteArray.toList s53) (ByteArray.toList s58)) || ((ByteArray.toList s53) == (ByteArray.toList s58)))
          (T.ret (.int .i64 (31 : Int)))
          (T.loads (a1.add 3) [.slice 9] <| fun (p59 : Option Addr) (l60 : Nat) (l61 : Nat) =>
          T.need (((0 : Int) ≤ n45) ∧ (n45 < (l60 : Int))) <|
          T.osome p59 <| fun (a62 : Addr) =>
          T.loads (a62.add ((Int.toNat n45) * 1)) [.string] <| fun (s63 : ByteArray) =>
          T.call Tryz.prog 47 [.slice p38 l39 l40, .string s63] false [(false, [.bool])] <| fun (b64 : Bool) =>
          T.stable [((a1.add 3), [.slice p59 l60 l61]), ((a57.add ((Int.toNat (IntKind.wrap .i64 (n45 - (1 : Int)))) * 1)), [.string s58]), ((a1.add 3), [.slice p54 l55 l56]), ((a52.add ((Int.toNat n45) * 1)), [.string s53]), ((a1.add 3), [.slice p49 l50 l51])] <|
          cond (!b64)
           (T.ret (.int .i64 (31 : Int)))
           (T.again 3 [.int .i64 n44, .int .i64 (IntKind.wrap .i64 (n45 + (1 : Int)))])))
         (T.loads (a1.add 3) [.slice 9] <| fun (p49 : Option Addr) (l50 : Nat) (l51 : Nat) =>
         T.need (((0 : Int) ≤ n45) ∧ (n45 < (l50 : Int))) <|
         T.osome p49 <| fun (a52 : Addr) =>
         T.loads (a52.add ((Int.toNat n45) * 1)) [.string] <| fun (s53 : ByteArray) =>
         T.call Tryz.prog 47 [.slice p38 l39 l40, .string s53] false [(false, [.bool])] <| fun (b54 : Bool) =>
         T.stable [((a1.add 3), [.slice p49 l50 l51])] <|
         cond (!b54)
          (T.ret (.int .i64 (31 : Int)))
          (T.again 3 [.int .i64 n44, .int .i64 (IntKind.wrap .i64 (n45 + (1 : Int)))])))
        (T.ret (.int .i64 (0 : Int)))))))))
theorem t_spandrelref9_Right_eq (pp00 : Option Addr) (ll00 cc00 : Nat) (pp01 : Option Addr) (ll01 cc01 : Nat) (pp02 : Option Addr) (ll02 cc02 : Nat) (pp03 : Option Addr) (ll03 cc03 : Nat) : xfun Tryz.prog [] Tryz.f17 [.agg #[.slice pp00 ll00 cc00, .slice pp01 ll01 cc01, .slice pp02 ll02 cc02, .slice pp03 ll03 cc03]] = t_spandrelref9_Right pp00 ll00 cc00 pp01 ll01 cc01 pp02 ll02 cc02 pp03 ll03 cc03 := by kernel_rfl

end Go.Sx
