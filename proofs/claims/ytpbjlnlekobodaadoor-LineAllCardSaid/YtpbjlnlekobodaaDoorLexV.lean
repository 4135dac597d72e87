/- The trees of the document's lexer and of LexTokens and LexNumbers, each checked by the kernel against the code. No condition. -/
import Derived.Test.YtpbjlnlekobodaaDoorSxF
import Derived.Test.YtpbjlnlekobodaaDoorProg
import Derived.KernelRfl
set_option linter.unusedVariables false
set_option linter.unusedSimpArgs false
set_option linter.deprecated false
set_option maxRecDepth 100000
namespace Go.Sx
open Go.Proofs
/-- The tree of 22. -/
def t_spandrelref2_Tokens (s0 : ByteArray) : T :=
 T.loop [(false, [.slice 0]), (false, [.int .i64]), (false, [.int .i64]), (false, [.slice 0]), (false, [.int .i64])] [.slice none 0 0, .int .i64 (0 : Int), .int .i64 (0 : Int), .slice none 0 0, .int .i64 (0 : Int)] <| fun (p1 : Option Addr) (l2 : Nat) (l3 : Nat) (n4 : Int) (n5 : Int) (p6 : Option Addr) (l7 : Nat) (l8 : Nat) (n9 : Int) =>
 cond (decide (n9 < (s0.size : Int)))
  (T.need (((0 : Int) ≤ n9) ∧ (n9 < (s0.size : Int))) <|
  cond ((sbyte s0 n9) == (59 : Int))
   (T.ret (.tuple #[.slice p6 l7 l8, .int .i64 (0 : Int), .int .i64 (0 : Int)]))
   (cond ((sbyte s0 n9) == (9 : Int))
    (T.again 0 [.slice p1 l2 l3, .int .i64 n4, .int .i64 n5, .slice p6 l7 l8, .int .i64 (IntKind.wrap .i64 (n9 + (1 : Int)))])
    (cond ((sbyte s0 n9) == (13 : Int))
     (T.again 0 [.slice p1 l2 l3, .int .i64 n4, .int .i64 n5, .slice p6 l7 l8, .int .i64 (IntKind.wrap .i64 (n9 + (1 : Int)))])
     (cond ((sbyte s0 n9) == (32 : Int))
      (T.again 0 [.slice p1 l2 l3, .int .i64 n4, .int .i64 n5, .slice p6 l7 l8, .int .i64 (IntKind.wrap .i64 (n9 + (1 : Int)))])
      (T.call Tryd.prog 68 [.int .u8 (sbyte s0 n9)] false [(false, [.bool])] <| fun (b10 : Bool) =>
      cond b10
       (T.loop [(false, [.int .i64])] [.int .i64 n9] <| fun (n11 : Int) =>
       cond (decide (n11 < (s0.size : Int)))
        (T.need (((0 : Int) ≤ n11) ∧ (n11 < (s0.size : Int))) <|
        T.call Tryd.prog 68 [.int .u8 (sbyte s0 n11)] false [(false, [.bool])] <| fun (b12 : Bool) =>
        cond b12
         (T.again 1 [.int .i64 (IntKind.wrap .i64 (n11 + (1 : Int)))])
         (T.need (((0 : Int) ≤ n11) ∧ (n11 < (s0.size : Int))) <|
         T.call Tryd.prog 69 [.int .u8 (sbyte s0 n11)] false [(false, [.bool])] <| fun (b13 : Bool) =>
         cond b13
          (T.again 1 [.int .i64 (IntKind.wrap .i64 (n11 + (1 : Int)))])
          (cond (decide ((IntKind.wrap .i64 (n11 - n9)) > (32 : Int)))
           (T.ret (.tuple #[.slice none 0 0, .int .i64 n9, .int .i64 (20 : Int)]))
           (T.need (((0 : Int) ≤ n9) ∧ ((n9 ≤ n11) ∧ (n11 ≤ (s0.size : Int)))) <|
           T.sem Tryd.prog (Instr.buildSlice 27 1 #[(0, .agg #[.int .i64 (1 : Int), .string (ByteArray.extract s0 (Int.toNat n9) (Int.toNat n11)), .int .u32 (0 : Int), .int .i64 n9])]) false [(false, [.slice 0])] <| fun (p14 : Option Addr) (l15 : Nat) (l16 : Nat) =>
           T.sem Tryd.prog (Builtin.append_ #[27, 27] 27 #[.slice p6 l7 l8, .slice p14 l15 l16]) false [(false, [.slice 0])] <| fun (p17 : Option Addr) (l18 : Nat) (l19 : Nat) =>
           T.again 0 [.slice p1 l2 l3, .int .i64 n4, .int .i64 n5, .slice p17 l18 l19, .int .i64 n11]))))
        (cond (decide ((IntKind.wrap .i64 (n11 - n9)) > (32 : Int)))
         (T.ret (.tuple #[.slice none 0 0, .int .i64 n9, .int .i64 (20 : Int)]))
         (T.need (((0 : Int) ≤ n9) ∧ ((n9 ≤ n11) ∧ (n11 ≤ (s0.size : Int)))) <|
         T.sem Tryd.prog (Instr.buildSlice 27 1 #[(0, .agg #[.int .i64 (1 : Int), .string (ByteArray.extract s0 (Int.toNat n9) (Int.toNat n11)), .int .u32 (0 : Int), .int .i64 n9])]) false [(false, [.slice 0])] <| fun (p12 : Option Addr) (l13 : Nat) (l14 : Nat) =>
         T.sem Tryd.prog (Builtin.append_ #[27, 27] 27 #[.slice p6 l7 l8, .slice p12 l13 l14]) false [(false, [.slice 0])] <| fun (p15 : Option Addr) (l16 : Nat) (l17 : Nat) =>
         T.again 0 [.slice p1 l2 l3, .int .i64 n4, .int .i64 n5, .slice p15 l16 l17, .int .i64 n11])))
       (T.call Tryd.prog 69 [.int .u8 (sbyte s0 n9)] false [(false, [.bool])] <| fun (b11 : Bool) =>
       cond b11
        (T.call Tryd.prog 70 [.string s0, .int .i64 n9] true [(false, [.int .u32]), (false, [.int .i64])] <| fun (n12 : Int) (n13 : Int) =>
        cond (n13 == (0 : Int))
         (T.ret (.tuple #[.slice none 0 0, .int .i64 n9, .int .i64 (20 : Int)]))
         (T.need (((0 : Int) ≤ n9) ∧ ((n9 ≤ n13) ∧ (n13 ≤ (s0.size : Int)))) <|
         T.sem Tryd.prog (Instr.buildSlice 27 1 #[(0, .agg #[.int .i64 (2 : Int), .string (ByteArray.extract s0 (Int.toNat n9) (Int.toNat n13)), .int .u32 n12, .int .i64 n9])]) false [(false, [.slice 0])] <| fun (p14 : Option Addr) (l15 : Nat) (l16 : Nat) =>
         T.sem Tryd.prog (Builtin.append_ #[27, 27] 27 #[.slice p6 l7 l8, .slice p14 l15 l16]) false [(false, [.slice 0])] <| fun (p17 : Option Addr) (l18 : Nat) (l19 : Nat) =>
         T.again 0 [.slice p1 l2 l3, .int .i64 n4, .int .i64 n5, .slice p17 l18 l19, .int .i64 n13]))
        (cond ((sbyte s0 n9) == (39 : Int))
         (T.call Tryd.prog 70 [.string s0, .int .i64 n9] true [(false, [.int .u32]), (false, [.int .i64])] <| fun (n12 : Int) (n13 : Int) =>
         cond (n13 == (0 : Int))
          (T.ret (.tuple #[.slice none 0 0, .int .i64 n9, .int .i64 (20 : Int)]))
          (T.need (((0 : Int) ≤ n9) ∧ ((n9 ≤ n13) ∧ (n13 ≤ (s0.size : Int)))) <|
          T.sem Tryd.prog (Instr.buildSlice 27 1 #[(0, .agg #[.int .i64 (2 : Int), .string (ByteArray.extract s0 (Int.toNat n9) (Int.toNat n13)), .int .u32 n12, .int .i64 n9])]) false [(false, [.slice 0])] <| fun (p14 : Option Addr) (l15 : Nat) (l16 : Nat) =>
          T.sem Tryd.prog (Builtin.append_ #[27, 27] 27 #[.slice p6 l7 l8, .slice p14 l15 l16]) false [(false, [.slice 0])] <| fun (p17 : Option Addr) (l18 : Nat) (l19 : Nat) =>
          T.again 0 [.slice p1 l2 l3, .int .i64 n4, .int .i64 n5, .slice p17 l18 l19, .int .i64 n13]))
         (cond ((sbyte s0 n9) != (58 : Int))
          (cond ((sbyte s0 n9) != (44 : Int))
           (cond ((sbyte s0 n9) != (40 : Int))
            (cond ((sbyte s0 n9) != (41 : Int))
             (cond ((sbyte s0 n9) != (43 : Int))
              (cond ((sbyte s0 n9) != (45 : Int))
               (cond ((sbyte s0 n9) != (42 : Int))
                (cond ((sbyte s0 n9) != (61 : Int))
                 (T.ret (.tuple #[.slice none 0 0, .int .i64 n9, .int .i64 (20 : Int)]))
                 (T.need (((0 : Int) ≤ n9) ∧ ((n9 ≤ (IntKind.wrap .i64 (n9 + (1 : Int)))) ∧ ((IntKind.wrap .i64 (n9 + (1 : Int))) ≤ (s0.size : Int)))) <|
                 T.sem Tryd.prog (Instr.buildSlice 27 1 #[(0, .agg #[.int .i64 (3 : Int), .string (ByteArray.extract s0 (Int.toNat n9) (Int.toNat (IntKind.wrap .i64 (n9 + (1 : Int))))), .int .u32 (0 : Int), .int .i64 n9])]) false [(false, [.slice 0])] <| fun (p12 : Option Addr) (l13 : Nat) (l14 : Nat) =>
                 T.sem Tryd.prog (Builtin.append_ #[27, 27] 27 #[.slice p6 l7 l8, .slice p12 l13 l14]) false [(false, [.slice 0])] <| fun (p15 : Option Addr) (l16 : Nat) (l17 : Nat) =>
                 T.again 0 [.slice p1 l2 l3, .int .i64 n4, .int .i64 n5, .slice p15 l16 l17, .int .i64 (IntKind.wrap .i64 (n9 + (1 : Int)))]))
                (T.need (((0 : Int) ≤ n9) ∧ ((n9 ≤ (IntKind.wrap .i64 (n9 + (1 : Int)))) ∧ ((IntKind.wrap .i64 (n9 + (1 : Int))) ≤ (s0.size : Int)))) <|
                T.sem Tryd.prog (Instr.buildSlice 27 1 #[(0, .agg #[.int .i64 (3 : Int), .string (ByteArray.extract s0 (Int.toNat n9) (Int.toNat (IntKind.wrap .i64 (n9 + (1 : Int))))), .int .u32 (0 : Int), .int .i64 n9])]) false [(false, [.slice 0])] <| fun (p12 : Option Addr) (l13 : Nat) (l14 : Nat) =>
                T.sem Tryd.prog (Builtin.append_ #[27, 27] 27 #[.slice p6 l7 l8, .slice p12 l13 l14]) false [(false, [.slice 0])] <| fun (p15 : Option Addr) (l16 : Nat) (l17 : Nat) =>
                T.again 0 [.slice p1 l2 l3, .int .i64 n4, .int .i64 n5, .slice p15 l16 l17, .int .i64 (IntKind.wrap .i64 (n9 + (1 : Int)))]))
               (T.need (((0 : Int) ≤ n9) ∧ ((n9 ≤ (IntKind.wrap .i64 (n9 + (1 : Int)))) ∧ ((IntKind.wrap .i64 (n9 + (1 : Int))) ≤ (s0.size : Int)))) <|
               T.sem Tryd.prog (Instr.buildSlice 27 1 #[(0, .agg #[.int .i64 (3 : Int), .string (ByteArray.extract s0 (Int.toNat n9) (Int.toNat (IntKind.wrap .i64 (n9 + (1 : Int))))), .int .u32 (0 : Int), .int .i64 n9])]) false [(false, [.slice 0])] <| fun (p12 : Option Addr) (l13 : Nat) (l14 : Nat) =>
               T.sem Tryd.prog (Builtin.append_ #[27, 27] 27 #[.slice p6 l7 l8, .slice p12 l13 l14]) false [(false, [.slice 0])] <| fun (p15 : Option Addr) (l16 : Nat) (l17 : Nat) =>
               T.again 0 [.slice p1 l2 l3, .int .i64 n4, .int .i64 n5, .slice p15 l16 l17, .int .i64 (IntKind.wrap .i64 (n9 + (1 : Int)))]))
              (T.need (((0 : Int) ≤ n9) ∧ ((n9 ≤ (IntKind.wrap .i64 (n9 + (1 : Int)))) ∧ ((IntKind.wrap .i64 (n9 + (1 : Int))) ≤ (s0.size : Int)))) <|
              T.sem Tryd.prog (Instr.buildSlice 27 1 #[(0, .agg #[.int .i64 (3 : Int), .string (ByteArray.extract s0 (Int.toNat n9) (Int.toNat (IntKind.wrap .i64 (n9 + (1 : Int))))), .int .u32 (0 : Int), .int .i64 n9])]) false [(false, [.slice 0])] <| fun (p12 : Option Addr) (l13 : Nat) (l14 : Nat) =>
              T.sem Tryd.prog (Builtin.append_ #[27, 27] 27 #[.slice p6 l7 l8, .slice p12 l13 l14]) false [(false, [.slice 0])] <| fun (p15 : Option Addr) (l16 : Nat) (l17 : Nat) =>
              T.again 0 [.slice p1 l2 l3, .int .i64 n4, .int .i64 n5, .slice p15 l16 l17, .int .i64 (IntKind.wrap .i64 (n9 + (1 : Int)))]))
             (T.need (((0 : Int) ≤ n9) ∧ ((n9 ≤ (IntKind.wrap .i64 (n9 + (1 : Int)))) ∧ ((IntKind.wrap .i64 (n9 + (1 : Int))) ≤ (s0.size : Int)))) <|
             T.sem Tryd.prog (Instr.buildSlice 27 1 #[(0, .agg #[.int .i64 (3 : Int), .string (ByteArray.extract s0 (Int.toNat n9) (Int.toNat (IntKind.wrap .i64 (n9 + (1 : Int))))), .int .u32 (0 : Int), .int .i64 n9])]) false [(false, [.slice 0])] <| fun (p12 : Option Addr) (l13 : Nat) (l14 : Nat) =>
             T.sem Tryd.prog (Builtin.append_ #[27, 27] 27 #[.slice p6 l7 l8, .slice p12 l13 l14]) false [(false, [.slice 0])] <| fun (p15 : Option Addr) (l16 : Nat) (l17 : Nat) =>
             T.again 0 [.slice p1 l2 l3, .int .i64 n4, .int .i64 n5, .slice p15 l16 l17, .int .i64 (IntKind.wrap .i64 (n9 + (1 : Int)))]))
            (T.need (((0 : Int) ≤ n9) ∧ ((n9 ≤ (IntKind.wrap .i64 (n9 + (1 : Int)))) ∧ ((IntKind.wrap .i64 (n9 + (1 : Int))) ≤ (s0.size : Int)))) <|
            T.sem Tryd.prog (Instr.buildSlice 27 1 #[(0, .agg #[.int .i64 (3 : Int), .string (ByteArray.extract s0 (Int.toNat n9) (Int.toNat (IntKind.wrap .i64 (n9 + (1 : Int))))), .int .u32 (0 : Int), .int .i64 n9])]) false [(false, [.slice 0])] <| fun (p12 : Option Addr) (l13 : Nat) (l14 : Nat) =>
            T.sem Tryd.prog (Builtin.append_ #[27, 27] 27 #[.slice p6 l7 l8, .slice p12 l13 l14]) false [(false, [.slice 0])] <| fun (p15 : Option Addr) (l16 : Nat) (l17 : Nat) =>
            T.again 0 [.slice p1 l2 l3, .int .i64 n4, .int .i64 n5, .slice p15 l16 l17, .int .i64 (IntKind.wrap .i64 (n9 + (1 : Int)))]))
           (T.need (((0 : Int) ≤ n9) ∧ ((n9 ≤ (IntKind.wrap .i64 (n9 + (1 : Int)))) ∧ ((IntKind.wrap .i64 (n9 + (1 : Int))) ≤ (s0.size : Int)))) <|
           T.sem Tryd.prog (Instr.buildSlice 27 1 #[(0, .agg #[.int .i64 (3 : Int), .string (ByteArray.extract s0 (Int.toNat n9) (Int.toNat (IntKind.wrap .i64 (n9 + (1 : Int))))), .int .u32 (0 : Int), .int .i64 n9])]) false [(false, [.slice 0])] <| fun (p12 : Option Addr) (l13 : Nat) (l14 : Nat) =>
           T.sem Tryd.prog (Builtin.append_ #[27, 27] 27 #[.slice p6 l7 l8, .slice p12 l13 l14]) false [(false, [.slice 0])] <| fun (p15 : Option Addr) (l16 : Nat) (l17 : Nat) =>
           T.again 0 [.slice p1 l2 l3, .int .i64 n4, .int .i64 n5, .slice p15 l16 l17, .int .i64 (IntKind.wrap .i64 (n9 + (1 : Int)))]))
          (T.need (((0 : Int) ≤ n9) ∧ ((n9 ≤ (IntKind.wrap .i64 (n9 + (1 : Int)))) ∧ ((IntKind.wrap .i64 (n9 + (1 : Int))) ≤ (s0.size : Int)))) <|
          T.sem Tryd.prog (Instr.buildSlice 27 1 #[(0, .agg #[.int .i64 (3 : Int), .string (ByteArray.extract s0 (Int.toNat n9) (Int.toNat (IntKind.wrap .i64 (n9 + (1 : Int))))), .int .u32 (0 : Int), .int .i64 n9])]) false [(false, [.slice 0])] <| fun (p12 : Option Addr) (l13 : Nat) (l14 : Nat) =>
          T.sem Tryd.prog (Builtin.append_ #[27, 27] 27 #[.slice p6 l7 l8, .slice p12 l13 l14]) false [(false, [.slice 0])] <| fun (p15 : Option Addr) (l16 : Nat) (l17 : Nat) =>
          T.again 0 [.slice p1 l2 l3, .int .i64 n4, .int .i64 n5, .slice p15 l16 l17, .int .i64 (IntKind.wrap .i64 (n9 + (1 : Int)))])))))))))
  (T.ret (.tuple #[.slice p6 l7 l8, .int .i64 (0 : Int), .int .i64 (0 : Int)]))
theorem t_spandrelref2_Tokens_eq (s0 : ByteArray) : xfun Tryd.prog [] Tryd.f22 [.string s0] = t_spandrelref2_Tokens s0 := by kernel_rfl

/-- The tree of 70. -/
def t_spandrelref2_number (s0 : ByteArray) (n1 : Int) : T :=
 T.need (((0 : Int) ≤ n1) ∧ (n1 < (s0.size : Int))) <|
 cond ((sbyte s0 n1) == (39 : Int))
  (cond (decide ((IntKind.wrap .i64 (n1 + (2 : Int))) ≥ (s0.size : Int)))
   (T.ret (.tuple #[.int .u32 (0 : Int), .int .i64 (0 : Int)]))
   (T.need (((0 : Int) ≤ (IntKind.wrap .i64 (n1 + (1 : Int)))) ∧ ((IntKind.wrap .i64 (n1 + (1 : Int))) < (s0.size : Int))) <|
   cond (decide ((sbyte s0 (IntKind.wrap .i64 (n1 + (1 : Int)))) < (32 : Int)))
    (T.ret (.tuple #[.int .u32 (0 : Int), .int .i64 (0 : Int)]))
    (T.need (((0 : Int) ≤ (IntKind.wrap .i64 (n1 + (1 : Int)))) ∧ ((IntKind.wrap .i64 (n1 + (1 : Int))) < (s0.size : Int))) <|
    cond (decide ((sbyte s0 (IntKind.wrap .i64 (n1 + (1 : Int)))) > (126 : Int)))
     (T.ret (.tuple #[.int .u32 (0 : Int), .int .i64 (0 : Int)]))
     (T.need (((0 : Int) ≤ (IntKind.wrap .i64 (n1 + (1 : Int)))) ∧ ((IntKind.wrap .i64 (n1 + (1 : Int))) < (s0.size : Int))) <|
     cond ((sbyte s0 (IntKind.wrap .i64 (n1 + (1 : Int)))) == (39 : Int))
      (T.ret (.tuple #[.int .u32 (0 : Int), .int .i64 (0 : Int)]))
      (T.need (((0 : Int) ≤ (IntKind.wrap .i64 (n1 + (2 : Int)))) ∧ ((IntKind.wrap .i64 (n1 + (2 : Int))) < (s0.size : Int))) <|
      cond ((sbyte s0 (IntKind.wrap .i64 (n1 + (2 : Int)))) != (39 : Int))
       (T.ret (.tuple #[.int .u32 (0 : Int), .int .i64 (0 : Int)]))
       (T.need (((0 : Int) ≤ (IntKind.wrap .i64 (n1 + (1 : Int)))) ∧ ((IntKind.wrap .i64 (n1 + (1 : Int))) < (s0.size : Int))) <|
       T.ret (.tuple #[.int .u32 (IntKind.wrap .u32 (sbyte s0 (IntKind.wrap .i64 (n1 + (1 : Int))))), .int .i64 (IntKind.wrap .i64 (n1 + (3 : Int)))])))))))
  (T.need (((0 : Int) ≤ n1) ∧ (n1 < (s0.size : Int))) <|
  cond ((sbyte s0 n1) == (48 : Int))
   (cond (decide ((IntKind.wrap .i64 (n1 + (1 : Int))) < (s0.size : Int)))
    (T.need (((0 : Int) ≤ (IntKind.wrap .i64 (n1 + (1 : Int)))) ∧ ((IntKind.wrap .i64 (n1 + (1 : Int))) < (s0.size : Int))) <|
    cond ((sbyte s0 (IntKind.wrap .i64 (n1 + (1 : Int)))) == (120 : Int))
     (T.loop [(false, [.int .i64]), (false, [.int .u64])] [.int .i64 (IntKind.wrap .i64 (n1 + (2 : Int))), .int .u64 (0 : Int)] <| fun (n2 : Int) (n3 : Int) =>
     cond (decide (n2 < (s0.size : Int)))
      (T.need (((0 : Int) ≤ n2) ∧ (n2 < (s0.size : Int))) <|
      T.call Tryd.prog 94 [.int .u8 (sbyte s0 n2)] false [(false, [.int .i64])] <| fun (n4 : Int) =>
      cond (decide (n4 ≥ (0 : Int)))
       (cond (decide ((IntKind.wrap .i64 (n2 - n1)) < (12 : Int)))
        (T.need (((0 : Int) ≤ n2) ∧ (n2 < (s0.size : Int))) <|
        T.call Tryd.prog 94 [.int .u8 (sbyte s0 n2)] false [(false, [.int .i64])] <| fun (n5 : Int) =>
        T.again 0 [.int .i64 (IntKind.wrap .i64 (n2 + (1 : Int))), .int .u64 (IntKind.wrap .u64 ((IntKind.wrap .u64 (n3 * (16 : Int))) + (IntKind.wrap .u64 n5)))])
        (cond (decide ((IntKind.wrap .i64 (n2 - n1)) < (3 : Int)))
         (T.ret (.tuple #[.int .u32 (0 : Int), .int .i64 (0 : Int)]))
         (cond (decide ((IntKind.wrap .i64 (n2 - n1)) > (10 : Int)))
          (T.ret (.tuple #[.int .u32 (0 : Int), .int .i64 (0 : Int)]))
          (cond (decide (n2 < (s0.size : Int)))
           (T.need (((0 : Int) ≤ n2) ∧ (n2 < (s0.size : Int))) <|
           T.call Tryd.prog 68 [.int .u8 (sbyte s0 n2)] false [(false, [.bool])] <| fun (b5 : Bool) =>
           cond b5
            (T.ret (.tuple #[.int .u32 (0 : Int), .int .i64 (0 : Int)]))
            (T.need (((0 : Int) ≤ n2) ∧ (n2 < (s0.size : Int))) <|
            T.call Tryd.prog 69 [.int .u8 (sbyte s0 n2)] false [(false, [.bool])] <| fun (b6 : Bool) =>
            cond b6
             (T.ret (.tuple #[.int .u32 (0 : Int), .int .i64 (0 : Int)]))
             (T.ret (.tuple #[.int .u32 (IntKind.wrap .u32 n3), .int .i64 n2]))))
           (T.ret (.tuple #[.int .u32 (IntKind.wrap .u32 n3), .int .i64 n2]))))))
       (cond (decide ((IntKind.wrap .i64 (n2 - n1)) < (3 : Int)))
        (T.ret (.tuple #[.int .u32 (0 : Int), .int .i64 (0 : Int)]))
        (cond (decide ((IntKind.wrap .i64 (n2 - n1)) > (10 : Int)))
         (T.ret (.tuple #[.int .u32 (0 : Int), .int .i64 (0 : Int)]))
         (cond (decide (n2 < (s0.size : Int)))
          (T.need (((0 : Int) ≤ n2) ∧ (n2 < (s0.size : Int))) <|
          T.call Tryd.prog 68 [.int .u8 (sbyte s0 n2)] false [(false, [.bool])] <| fun (b5 : Bool) =>
          cond b5
           (T.ret (.tuple #[.int .u32 (0 : Int), .int .i64 (0 : Int)]))
           (T.need (((0 : Int) ≤ n2) ∧ (n2 < (s0.size : Int))) <|
           T.call Tryd.prog 69 [.int .u8 (sbyte s0 n2)] false [(false, [.bool])] <| fun (b6 : Bool) =>
           cond b6
            (T.ret (.tuple #[.int .u32 (0 : Int), .int .i64 (0 : Int)]))
            (T.ret (.tuple #[.int .u32 (IntKind.wrap .u32 n3), .int .i64 n2]))))
          (T.ret (.tuple #[.int .u32 (IntKind.wrap .u32 n3), .int .i64 n2]))))))
      (cond (decide ((IntKind.wrap .i64 (n2 - n1)) < (3 : Int)))
       (T.ret (.tuple #[.int .u32 (0 : Int), .int .i64 (0 : Int)]))
       (cond (decide ((IntKind.wrap .i64 (n2 - n1)) > (10 : Int)))
        (T.ret (.tuple #[.int .u32 (0 : Int), .int .i64 (0 : Int)]))
        (cond (decide (n2 < (s0.size : Int)))
         (T.need (((0 : Int) ≤ n2) ∧ (n2 < (s0.size : Int))) <|
         T.call Tryd.prog 68 [.int .u8 (sbyte s0 n2)] false [(false, [.bool])] <| fun (b4 : Bool) =>
         cond b4
          (T.ret (.tuple #[.int .u32 (0 : Int), .int .i64 (0 : Int)]))
          (T.need (((0 : Int) ≤ n2) ∧ (n2 < (s0.size : Int))) <|
          T.call Tryd.prog 69 [.int .u8 (sbyte s0 n2)] false [(false, [.bool])] <| fun (b5 : Bool) =>
          cond b5
           (T.ret (.tuple #[.int .u32 (0 : Int), .int .i64 (0 : Int)]))
           (T.ret (.tuple #[.int .u32 (IntKind.wrap .u32 n3), .int .i64 n2]))))
         (T.ret (.tuple #[.int .u32 (IntKind.wrap .u32 n3), .int .i64 n2]))))))
     (T.loop [(false, [.int .i64]), (false, [.int .u64])] [.int .i64 n1, .int .u64 (0 : Int)] <| fun (n2 : Int) (n3 : Int) =>
     cond (decide (n2 < (s0.size : Int)))
      (T.need (((0 : Int) ≤ n2) ∧ (n2 < (s0.size : Int))) <|
      T.call Tryd.prog 69 [.int .u8 (sbyte s0 n2)] false [(false, [.bool])] <| fun (b4 : Bool) =>
      cond b4
       (cond (decide ((IntKind.wrap .i64 (n2 - n1)) < (12 : Int)))
        (T.need (((0 : Int) ≤ n2) ∧ (n2 < (s0.size : Int))) <|
        T.again 0 [.int .i64 (IntKind.wrap .i64 (n2 + (1 : Int))), .int .u64 (IntKind.wrap .u64 ((IntKind.wrap .u64 (n3 * (10 : Int))) + (IntKind.wrap .u64 (IntKind.wrap .u8 ((sbyte s0 n2) - (48 : Int))))))])
        (cond (decide ((IntKind.wrap .i64 (n2 - n1)) > (10 : Int)))
         (T.ret (.tuple #[.int .u32 (0 : Int), .int .i64 (0 : Int)]))
         (cond (decide (n3 > (4294967295 : Int)))
          (T.ret (.tuple #[.int .u32 (0 : Int), .int .i64 (0 : Int)]))
          (T.need (((0 : Int) ≤ n1) ∧ (n1 < (s0.size : Int))) <|
          cond ((sbyte s0 n1) == (48 : Int))
           (cond (decide ((IntKind.wrap .i64 (n2 - n1)) > (1 : Int)))
            (T.ret (.tuple #[.int .u32 (0 : Int), .int .i64 (0 : Int)]))
            (cond (decide (n2 < (s0.size : Int)))
             (T.need (((0 : Int) ≤ n2) ∧ (n2 < (s0.size : Int))) <|
             T.call Tryd.prog 68 [.int .u8 (sbyte s0 n2)] false [(false, [.bool])] <| fun (b5 : Bool) =>
             cond b5
              (T.ret (.tuple #[.int .u32 (0 : Int), .int .i64 (0 : Int)]))
              (T.need (((0 : Int) ≤ n2) ∧ (n2 < (s0.size : Int))) <|
              T.call Tryd.prog 69 [.int .u8 (sbyte s0 n2)] false [(false, [.bool])] <| fun (b6 : Bool) =>
              cond b6
               (T.ret (.tuple #[.int .u32 (0 : Int), .int .i64 (0 : Int)]))
               (T.ret (.tuple #[.int .u32 (IntKind.wrap .u32 n3), .int .i64 n2]))))
             (T.ret (.tuple #[.int .u32 (IntKind.wrap .u32 n3), .int .i64 n2]))))
           (cond (decide (n2 < (s0.size : Int)))
            (T.need (((0 : Int) ≤ n2) ∧ (n2 < (s0.size : Int))) <|
            T.call Tryd.prog 68 [.int .u8 (sbyte s0 n2)] false [(false, [.bool])] <| fun (b5 : Bool) =>
            cond b5
             (T.ret (.tuple #[.int .u32 (0 : Int), .int .i64 (0 : Int)]))
             (T.need (((0 : Int) ≤ n2) ∧ (n2 < (s0.size : Int))) <|
             T.call Tryd.prog 69 [.int .u8 (sbyte s0 n2)] false [(false, [.bool])] <| fun (b6 : Bool) =>
             cond b6
              (T.ret (.tuple #[.int .u32 (0 : Int), .int .i64 (0 : Int)]))
              (T.ret (.tuple #[.int .u32 (IntKind.wrap .u32 n3), .int .i64 n2]))))
            (T.ret (.tuple #[.int .u32 (IntKind.wrap .u32 n3), .int .i64 n2])))))))
       (cond (decide ((IntKind.wrap .i64 (n2 - n1)) > (10 : Int)))
        (T.ret (.tuple #[.int .u32 (0 : Int), .int .i64 (0 : Int)]))
        (cond (decide (n3 > (4294967295 : Int)))
         (T.ret (.tuple #[.int .u32 (0 : Int), .int .i64 (0 : Int)]))
         (T.need (((0 : Int) ≤ n1) ∧ (n1 < (s0.size : Int))) <|
         cond ((sbyte s0 n1) == (48 : Int))
          (cond (decide ((IntKind.wrap .i64 (n2 - n1)) > (1 : Int)))
           (T.ret (.tuple #[.int .u32 (0 : Int), .int .i64 (0 : Int)]))
           (cond (decide (n2 < (s0.size : Int)))
            (T.need (((0 : Int) ≤ n2) ∧ (n2 < (s0.size : Int))) <|
            T.call Tryd.prog 68 [.int .u8 (sbyte s0 n2)] false [(false, [.bool])] <| fun (b5 : Bool) =>
            cond b5
             (T.ret (.tuple #[.int .u32 (0 : Int), .int .i64 (0 : Int)]))
             (T.need (((0 : Int) ≤ n2) ∧ (n2 < (s0.size : Int))) <|
             T.call Tryd.prog 69 [.int .u8 (sbyte s0 n2)] false [(false, [.bool])] <| fun (b6 : Bool) =>
             cond b6
              (T.ret (.tuple #[.int .u32 (0 : Int), .int .i64 (0 : Int)]))
              (T.ret (.tuple #[.int .u32 (IntKind.wrap .u32 n3), .int .i64 n2]))))
            (T.ret (.tuple #[.int .u32 (IntKind.wrap .u32 n3), .int .i64 n2]))))
          (cond (decide (n2 < (s0.size : Int)))
           (T.need (((0 : Int) ≤ n2) ∧ (n2 < (s0.size : Int))) <|
           T.call Tryd.prog 68 [.int .u8 (sbyte s0 n2)] false [(false, [.bool])] <| fun (b5 : Bool) =>
           cond b5
            (T.ret (.tuple #[.int .u32 (0 : Int), .int .i64 (0 : Int)]))
            (T.need (((0 : Int) ≤ n2) ∧ (n2 < (s0.size : Int))) <|
            T.call Tryd.prog 69 [.int .u8 (sbyte s0 n2)] false [(false, [.bool])] <| fun (b6 : Bool) =>
            cond b6
             (T.ret (.tuple #[.int .u32 (0 : Int), .int .i64 (0 : Int)]))
             (T.ret (.tuple #[.int .u32 (IntKind.wrap .u32 n3), .int .i64 n2]))))
           (T.ret (.tuple #[.int .u32 (IntKind.wrap .u32 n3), .int .i64 n2])))))))
      (cond (decide ((IntKind.wrap .i64 (n2 - n1)) > (10 : Int)))
       (T.ret (.tuple #[.int .u32 (0 : Int), .int .i64 (0 : Int)]))
       (cond (decide (n3 > (4294967295 : Int)))
        (T.ret (.tuple #[.int .u32 (0 : Int), .int .i64 (0 : Int)]))
        (T.need (((0 : Int) ≤ n1) ∧ (n1 < (s0.size : Int))) <|
        cond ((sbyte s0 n1) == (48 : Int))
         (cond (decide ((IntKind.wrap .i64 (n2 - n1)) > (1 : Int)))
          (T.ret (.tuple #[.int .u32 (0 : Int), .int .i64 (0 : Int)]))
          (cond (decide (n2 < (s0.size : Int)))
           (T.need (((0 : Int) ≤ n2) ∧ (n2 < (s0.size : Int))) <|
           T.call Tryd.prog 68 [.int .u8 (sbyte s0 n2)] false [(false, [.bool])] <| fun (b4 : Bool) =>
           cond b4
            (T.ret (.tuple #[.int .u32 (0 : Int), .int .i64 (0 : Int)]))
            (T.need (((0 : Int) ≤ n2) ∧ (n2 < (s0.size : Int))) <|
            T.call Tryd.prog 69 [.int .u8 (sbyte s0 n2)] false [(false, [.bool])] <| fun (b5 : Bool) =>
            cond b5
             (T.ret (.tuple #[.int .u32 (0 : Int), .int .i64 (0 : Int)]))
             (T.ret (.tuple #[.int .u32 (IntKind.wrap .u32 n3), .int .i64 n2]))))
           (T.ret (.tuple #[.int .u32 (IntKind.wrap .u32 n3), .int .i64 n2]))))
         (cond (decide (n2 < (s0.size : Int)))
          (T.need (((0 : Int) ≤ n2) ∧ (n2 < (s0.size : Int))) <|
          T.call Tryd.prog 68 [.int .u8 (sbyte s0 n2)] false [(false, [.bool])] <| fun (b4 : Bool) =>
          cond b4
           (T.ret (.tuple #[.int .u32 (0 : Int), .int .i64 (0 : Int)]))
           (T.need (((0 : Int) ≤ n2) ∧ (n2 < (s0.size : Int))) <|
           T.call Tryd.prog 69 [.int .u8 (sbyte s0 n2)] false [(false, [.bool])] <| fun (b5 : Bool) =>
           cond b5
            (T.ret (.tuple #[.int .u32 (0 : Int), .int .i64 (0 : Int)]))
            (T.ret (.tuple #[.int .u32 (IntKind.wrap .u32 n3), .int .i64 n2]))))
          (T.ret (.tuple #[.int .u32 (IntKind.wrap .u32 n3), .int .i64 n2]))))))))
    (T.loop [(false, [.int .i64]), (false, [.int .u64])] [.int .i64 n1, .int .u64 (0 : Int)] <| fun (n2 : Int) (n3 : Int) =>
    cond (decide (n2 < (s0.size : Int)))
     (T.need (((0 : Int) ≤ n2) ∧ (n2 < (s0.size : Int))) <|
     T.call Tryd.prog 69 [.int .u8 (sbyte s0 n2)] false [(false, [.bool])] <| fun (b4 : Bool) =>
     cond b4
      (cond (decide ((IntKind.wrap .i64 (n2 - n1)) < (12 : Int)))
       (T.need (((0 : Int) ≤ n2) ∧ (n2 < (s0.size : Int))) <|
       T.again 0 [.int .i64 (IntKind.wrap .i64 (n2 + (1 : Int))), .int .u64 (IntKind.wrap .u64 ((IntKind.wrap .u64 (n3 * (10 : Int))) + (IntKind.wrap .u64 (IntKind.wrap .u8 ((sbyte s0 n2) - (48 : Int))))))])
       (cond (decide ((IntKind.wrap .i64 (n2 - n1)) > (10 : Int)))
        (T.ret (.tuple #[.int .u32 (0 : Int), .int .i64 (0 : Int)]))
        (cond (decide (n3 > (4294967295 : Int)))
         (T.ret (.tuple #[.int .u32 (0 : Int), .int .i64 (0 : Int)]))
         (T.need (((0 : Int) ≤ n1) ∧ (n1 < (s0.size : Int))) <|
         cond ((sbyte s0 n1) == (48 : Int))
          (cond (decide ((IntKind.wrap .i64 (n2 - n1)) > (1 : Int)))
           (T.ret (.tuple #[.int .u32 (0 : Int), .int .i64 (0 : Int)]))
           (cond (decide (n2 < (s0.size : Int)))
            (T.need (((0 : Int) ≤ n2) ∧ (n2 < (s0.size : Int))) <|
            T.call Tryd.prog 68 [.int .u8 (sbyte s0 n2)] false [(false, [.bool])] <| fun (b5 : Bool) =>
            cond b5
             (T.ret (.tuple #[.int .u32 (0 : Int), .int .i64 (0 : Int)]))
             (T.need (((0 : Int) ≤ n2) ∧ (n2 < (s0.size : Int))) <|
             T.call Tryd.prog 69 [.int .u8 (sbyte s0 n2)] false [(false, [.bool])] <| fun (b6 : Bool) =>
             cond b6
              (T.ret (.tuple #[.int .u32 (0 : Int), .int .i64 (0 : Int)]))
              (T.ret (.tuple #[.int .u32 (IntKind.wrap .u32 n3), .int .i64 n2]))))
            (T.ret (.tuple #[.int .u32 (IntKind.wrap .u32 n3), .int .i64 n2]))))
          (cond (decide (n2 < (s0.size : Int)))
           (T.need (((0 : Int) ≤ n2) ∧ (n2 < (s0.size : Int))) <|
           T.call Tryd.prog 68 [.int .u8 (sbyte s0 n2)] false [(false, [.bool])] <| fun (b5 : Bool) =>
           cond b5
            (T.ret (.tuple #[.int .u32 (0 : Int), .int .i64 (0 : Int)]))
            (T.need (((0 : Int) ≤ n2) ∧ (n2 < (s0.size : Int))) <|
            T.call Tryd.prog 69 [.int .u8 (sbyte s0 n2)] false [(false, [.bool])] <| fun (b6 : Bool) =>
            cond b6
             (T.ret (.tuple #[.int .u32 (0 : Int), .int .i64 (0 : Int)]))
             (T.ret (.tuple #[.int .u32 (IntKind.wrap .u32 n3), .int .i64 n2]))))
           (T.ret (.tuple #[.int .u32 (IntKind.wrap .u32 n3), .int .i64 n2])))))))
      (cond (decide ((IntKind.wrap .i64 (n2 - n1)) > (10 : Int)))
       (T.ret (.tuple #[.int .u32 (0 : Int), .int .i64 (0 : Int)]))
       (cond (decide (n3 > (4294967295 : Int)))
        (T.ret (.tuple #[.int .u32 (0 : Int), .int .i64 (0 : Int)]))
        (T.need (((0 : Int) ≤ n1) ∧ (n1 < (s0.size : Int))) <|
        cond ((sbyte s0 n1) == (48 : Int))
         (cond (decide ((IntKind.wrap .i64 (n2 - n1)) > (1 : Int)))
          (T.ret (.tuple #[.int .u32 (0 : Int), .int .i64 (0 : Int)]))
          (cond (decide (n2 < (s0.size : Int)))
           (T.need (((0 : Int) ≤ n2) ∧ (n2 < (s0.size : Int))) <|
           T.call Tryd.prog 68 [.int .u8 (sbyte s0 n2)] false [(false, [.bool])] <| fun (b5 : Bool) =>
           cond b5
            (T.ret (.tuple #[.int .u32 (0 : Int), .int .i64 (0 : Int)]))
            (T.need (((0 : Int) ≤ n2) ∧ (n2 < (s0.size : Int))) <|
            T.call Tryd.prog 69 [.int .u8 (sbyte s0 n2)] false [(false, [.bool])] <| fun (b6 : Bool) =>
            cond b6
             (T.ret (.tuple #[.int .u32 (0 : Int), .int .i64 (0 : Int)]))
             (T.ret (.tuple #[.int .u32 (IntKind.wrap .u32 n3), .int .i64 n2]))))
           (T.ret (.tuple #[.int .u32 (IntKind.wrap .u32 n3), .int .i64 n2]))))
         (cond (decide (n2 < (s0.size : Int)))
          (T.need (((0 : Int) ≤ n2) ∧ (n2 < (s0.size : Int))) <|
          T.call Tryd.prog 68 [.int .u8 (sbyte s0 n2)] false [(false, [.bool])] <| fun (b5 : Bool) =>
          cond b5
           (T.ret (.tuple #[.int .u32 (0 : Int), .int .i64 (0 : Int)]))
           (T.need (((0 : Int) ≤ n2) ∧ (n2 < (s0.size : Int))) <|
           T.call Tryd.prog 69 [.int .u8 (sbyte s0 n2)] false [(false, [.bool])] <| fun (b6 : Bool) =>
           cond b6
            (T.ret (.tuple #[.int .u32 (0 : Int), .int .i64 (0 : Int)]))
            (T.ret (.tuple #[.int .u32 (IntKind.wrap .u32 n3), .int .i64 n2]))))
          (T.ret (.tuple #[.int .u32 (IntKind.wrap .u32 n3), .int .i64 n2])))))))
     (cond (decide ((IntKind.wrap .i64 (n2 - n1)) > (10 : Int)))
      (T.ret (.tuple #[.int .u32 (0 : Int), .int .i64 (0 : Int)]))
      (cond (decide (n3 > (4294967295 : Int)))
       (T.ret (.tuple #[.int .u32 (0 : Int), .int .i64 (0 : Int)]))
       (T.need (((0 : Int) ≤ n1) ∧ (n1 < (s0.size : Int))) <|
       cond ((sbyte s0 n1) == (48 : Int))
        (cond (decide ((IntKind.wrap .i64 (n2 - n1)) > (1 : Int)))
         (T.ret (.tuple #[.int .u32 (0 : Int), .int .i64 (0 : Int)]))
         (cond (decide (n2 < (s0.size : Int)))
          (T.need (((0 : Int) ≤ n2) ∧ (n2 < (s0.size : Int))) <|
          T.call Tryd.prog 68 [.int .u8 (sbyte s0 n2)] false [(false, [.bool])] <| fun (b4 : Bool) =>
          cond b4
           (T.ret (.tuple #[.int .u32 (0 : Int), .int .i64 (0 : Int)]))
           (T.need (((0 : Int) ≤ n2) ∧ (n2 < (s0.size : Int))) <|
           T.call Tryd.prog 69 [.int .u8 (sbyte s0 n2)] false [(false, [.bool])] <| fun (b5 : Bool) =>
           cond b5
            (T.ret (.tuple #[.int .u32 (0 : Int), .int .i64 (0 : Int)]))
            (T.ret (.tuple #[.int .u32 (IntKind.wrap .u32 n3), .int .i64 n2]))))
          (T.ret (.tuple #[.int .u32 (IntKind.wrap .u32 n3), .int .i64 n2]))))
        (cond (decide (n2 < (s0.size : Int)))
         (T.need (((0 : Int) ≤ n2) ∧ (n2 < (s0.size : Int))) <|
         T.call Tryd.prog 68 [.int .u8 (sbyte s0 n2)] false [(false, [.bool])] <| fun (b4 : Bool) =>
         cond b4
          (T.ret (.tuple #[.int .u32 (0 : Int), .int .i64 (0 : Int)]))
          (T.need (((0 : Int) ≤ n2) ∧ (n2 < (s0.size : Int))) <|
          T.call Tryd.prog 69 [.int .u8 (sbyte s0 n2)] false [(false, [.bool])] <| fun (b5 : Bool) =>
          cond b5
           (T.ret (.tuple #[.int .u32 (0 : Int), .int .i64 (0 : Int)]))
           (T.ret (.tuple #[.int .u32 (IntKind.wrap .u32 n3), .int .i64 n2]))))
         (T.ret (.tuple #[.int .u32 (IntKind.wrap .u32 n3), .int .i64 n2]))))))))
   (T.loop [(false, [.int .i64]), (false, [.int .u64])] [.int .i64 n1, .int .u64 (0 : Int)] <| fun (n2 : Int) (n3 : Int) =>
   cond (decide (n2 < (s0.size : Int)))
    (T.need (((0 : Int) ≤ n2) ∧ (n2 < (s0.size : Int))) <|
    T.call Tryd.prog 69 [.int .u8 (sbyte s0 n2)] false [(false, [.bool])] <| fun (b4 : Bool) =>
    cond b4
     (cond (decide ((IntKind.wrap .i64 (n2 - n1)) < (12 : Int)))
      (T.need (((0 : Int) ≤ n2) ∧ (n2 < (s0.size : Int))) <|
      T.again 0 [.int .i64 (IntKind.wrap .i64 (n2 + (1 : Int))), .int .u64 (IntKind.wrap .u64 ((IntKind.wrap .u64 (n3 * (10 : Int))) + (IntKind.wrap .u64 (IntKind.wrap .u8 ((sbyte s0 n2) - (48 : Int))))))])
      (cond (decide ((IntKind.wrap .i64 (n2 - n1)) > (10 : Int)))
       (T.ret (.tuple #[.int .u32 (0 : Int), .int .i64 (0 : Int)]))
       (cond (decide (n3 > (4294967295 : Int)))
        (T.ret (.tuple #[.int .u32 (0 : Int), .int .i64 (0 : Int)]))
        (T.need (((0 : Int) ≤ n1) ∧ (n1 < (s0.size : Int))) <|
        cond ((sbyte s0 n1) == (48 : Int))
         (cond (decide ((IntKind.wrap .i64 (n2 - n1)) > (1 : Int)))
          (T.ret (.tuple #[.int .u32 (0 : Int), .int .i64 (0 : Int)]))
          (cond (decide (n2 < (s0.size : Int)))
           (T.need (((0 : Int) ≤ n2) ∧ (n2 < (s0.size : Int))) <|
           T.call Tryd.prog 68 [.int .u8 (sbyte s0 n2)] false [(false, [.bool])] <| fun (b5 : Bool) =>
           cond b5
            (T.ret (.tuple #[.int .u32 (0 : Int), .int .i64 (0 : Int)]))
            (T.need (((0 : Int) ≤ n2) ∧ (n2 < (s0.size : Int))) <|
            T.call Tryd.prog 69 [.int .u8 (sbyte s0 n2)] false [(false, [.bool])] <| fun (b6 : Bool) =>
            cond b6
             (T.ret (.tuple #[.int .u32 (0 : Int), .int .i64 (0 : Int)]))
             (T.ret (.tuple #[.int .u32 (IntKind.wrap .u32 n3), .int .i64 n2]))))
           (T.ret (.tuple #[.int .u32 (IntKind.wrap .u32 n3), .int .i64 n2]))))
         (cond (decide (n2 < (s0.size : Int)))
          (T.need (((0 : Int) ≤ n2) ∧ (n2 < (s0.size : Int))) <|
          T.call Tryd.prog 68 [.int .u8 (sbyte s0 n2)] false [(false, [.bool])] <| fun (b5 : Bool) =>
          cond b5
           (T.ret (.tuple #[.int .u32 (0 : Int), .int .i64 (0 : Int)]))
           (T.need (((0 : Int) ≤ n2) ∧ (n2 < (s0.size : Int))) <|
           T.call Tryd.prog 69 [.int .u8 (sbyte s0 n2)] false [(false, [.bool])] <| fun (b6 : Bool) =>
           cond b6
            (T.ret (.tuple #[.int .u32 (0 : Int), .int .i64 (0 : Int)]))
            (T.ret (.tuple #[.int .u32 (IntKind.wrap .u32 n3), .int .i64 n2]))))
          (T.ret (.tuple #[.int .u32 (IntKind.wrap .u32 n3), .int .i64 n2])))))))
     (cond (decide ((IntKind.wrap .i64 (n2 - n1)) > (10 : Int)))
      (T.ret (.tuple #[.int .u32 (0 : Int), .int .i64 (0 : Int)]))
      (cond (decide (n3 > (4294967295 : Int)))
       (T.ret (.tuple #[.int .u32 (0 : Int), .int .i64 (0 : Int)]))
       (T.need (((0 : Int) ≤ n1) ∧ (n1 < (s0.size : Int))) <|
       cond ((sbyte s0 n1) == (48 : Int))
        (cond (decide ((IntKind.wrap .i64 (n2 - n1)) > (1 : Int)))
         (T.ret (.tuple #[.int .u32 (0 : Int), .int .i64 (0 : Int)]))
         (cond (decide (n2 < (s0.size : Int)))
          (T.need (((0 : Int) ≤ n2) ∧ (n2 < (s0.size : Int))) <|
          T.call Tryd.prog 68 [.int .u8 (sbyte s0 n2)] false [(false, [.bool])] <| fun (b5 : Bool) =>
          cond b5
           (T.ret (.tuple #[.int .u32 (0 : Int), .int .i64 (0 : Int)]))
           (T.need (((0 : Int) ≤ n2) ∧ (n2 < (s0.size : Int))) <|
           T.call Tryd.prog 69 [.int .u8 (sbyte s0 n2)] false [(false, [.bool])] <| fun (b6 : Bool) =>
           cond b6
            (T.ret (.tuple #[.int .u32 (0 : Int), .int .i64 (0 : Int)]))
            (T.ret (.tuple #[.int .u32 (IntKind.wrap .u32 n3), .int .i64 n2]))))
          (T.ret (.tuple #[.int .u32 (IntKind.wrap .u32 n3), .int .i64 n2]))))
        (cond (decide (n2 < (s0.size : Int)))
         (T.need (((0 : Int) ≤ n2) ∧ (n2 < (s0.size : Int))) <|
         T.call Tryd.prog 68 [.int .u8 (sbyte s0 n2)] false [(false, [.bool])] <| fun (b5 : Bool) =>
         cond b5
          (T.ret (.tuple #[.int .u32 (0 : Int), .int .i64 (0 : Int)]))
          (T.need (((0 : Int) ≤ n2) ∧ (n2 < (s0.size : Int))) <|
          T.call Tryd.prog 69 [.int .u8 (sbyte s0 n2)] false [(false, [.bool])] <| fun (b6 : Bool) =>
          cond b6
           (T.ret (.tuple #[.int .u32 (0 : Int), .int .i64 (0 : Int)]))
           (T.ret (.tuple #[.int .u32 (IntKind.wrap .u32 n3), .int .i64 n2]))))
         (T.ret (.tuple #[.int .u32 (IntKind.wrap .u32 n3), .int .i64 n2])))))))
    (cond (decide ((IntKind.wrap .i64 (n2 - n1)) > (10 : Int)))
     (T.ret (.tuple #[.int .u32 (0 : Int), .int .i64 (0 : Int)]))
     (cond (decide (n3 > (4294967295 : Int)))
      (T.ret (.tuple #[.int .u32 (0 : Int), .int .i64 (0 : Int)]))
      (T.need (((0 : Int) ≤ n1) ∧ (n1 < (s0.size : Int))) <|
      cond ((sbyte s0 n1) == (48 : Int))
       (cond (decide ((IntKind.wrap .i64 (n2 - n1)) > (1 : Int)))
        (T.ret (.tuple #[.int .u32 (0 : Int), .int .i64 (0 : Int)]))
        (cond (decide (n2 < (s0.size : Int)))
         (T.need (((0 : Int) ≤ n2) ∧ (n2 < (s0.size : Int))) <|
         T.call Tryd.prog 68 [.int .u8 (sbyte s0 n2)] false [(false, [.bool])] <| fun (b4 : Bool) =>
         cond b4
          (T.ret (.tuple #[.int .u32 (0 : Int), .int .i64 (0 : Int)]))
          (T.need (((0 : Int) ≤ n2) ∧ (n2 < (s0.size : Int))) <|
          T.call Tryd.prog 69 [.int .u8 (sbyte s0 n2)] false [(false, [.bool])] <| fun (b5 : Bool) =>
          cond b5
           (T.ret (.tuple #[.int .u32 (0 : Int), .int .i64 (0 : Int)]))
           (T.ret (.tuple #[.int .u32 (IntKind.wrap .u32 n3), .int .i64 n2]))))
         (T.ret (.tuple #[.int .u32 (IntKind.wrap .u32 n3), .int .i64 n2]))))
       (cond (decide (n2 < (s0.size : Int)))
        (T.need (((0 : Int) ≤ n2) ∧ (n2 < (s0.size : Int))) <|
        T.call Tryd.prog 68 [.int .u8 (sbyte s0 n2)] false [(false, [.bool])] <| fun (b4 : Bool) =>
        cond b4
         (T.ret (.tuple #[.int .u32 (0 : Int), .int .i64 (0 : Int)]))
         (T.need (((0 : Int) ≤ n2) ∧ (n2 < (s0.size : Int))) <|
         T.call Tryd.prog 69 [.int .u8 (sbyte s0 n2)] false [(false, [.bool])] <| fun (b5 : Bool) =>
         cond b5
          (T.ret (.tuple #[.int .u32 (0 : Int), .int .i64 (0 : Int)]))
          (T.ret (.tuple #[.int .u32 (IntKind.wrap .u32 n3), .int .i64 n2]))))
        (T.ret (.tuple #[.int .u32 (IntKind.wrap .u32 n3), .int .i64 n2]))))))))
theorem t_spandrelref2_number_eq (s0 : ByteArray) (n1 : Int) : xfun Tryd.prog [] Tryd.f70 [.string s0, .int .i64 n1] = t_spandrelref2_number s0 n1 := by kernel_rfl

/-- The tree of 94. -/
def t_spandrelref2_hex (n0 : Int) : T :=
 T.call Tryd.prog 69 [.int .u8 n0] false [(false, [.bool])] <| fun (b1 : Bool) =>
 cond b1
  (T.ret (.int .i64 (IntKind.wrap .i64 (IntKind.wrap .u8 (n0 - (48 : Int))))))
  (cond (decide (n0 ≥ (97 : Int)))
   (cond (decide (n0 ≤ (102 : Int)))
    (T.ret (.int .i64 (IntKind.wrap .i64 ((IntKind.wrap .i64 (IntKind.wrap .u8 (n0 - (97 : Int)))) + (10 : Int)))))
    (T.ret (.int .i64 (-1 : Int))))
   (T.ret (.int .i64 (-1 : Int))))
theorem t_spandrelref2_hex_eq (n0 : Int) : xfun Tryd.prog [] Tryd.f94 [.int .u8 n0] = t_spandrelref2_hex n0 := by kernel_rfl

/-- The tree of 23. -/
def t_spandrellaw2_same (pp00 : Option Addr) (ll00 cc00 : Nat) (pp10 : Option Addr) (ll10 cc10 : Nat) : T :=
 cond ((ll00 : Int) != (ll10 : Int))
  (T.ret (.bool false))
  (T.loop [(false, [.bool]), (false, [.int .i64])] [.bool false, .int .i64 (0 : Int)] <| fun (b2 : Bool) (n3 : Int) =>
  cond (decide (n3 < (ll00 : Int)))
   (T.need (((0 : Int) ≤ n3) ∧ (n3 < (ll00 : Int))) <|
   T.osome pp00 <| fun (a4 : Addr) =>
   T.loads (a4.add ((Int.toNat n3) * 4)) [.int .i64, .string, .int .u32, .int .i64] <| fun (n5 : Int) (s6 : ByteArray) (n7 : Int) (n8 : Int) =>
   T.need (((0 : Int) ≤ n3) ∧ (n3 < (ll10 : Int))) <|
   T.osome pp10 <| fun (a9 : Addr) =>
   T.loads (a9.add ((Int.toNat n3) * 4)) [.int .i64] <| fun (n10 : Int) =>
   T.need (((0 : Int) ≤ n3) ∧ (n3 < (ll10 : Int))) <|
   T.osome pp10 <| fun (a11 : Addr) =>
   T.loads ((a11.add ((Int.toNat n3) * 4)).add 1) [.string] <| fun (s12 : ByteArray) =>
   T.need (((0 : Int) ≤ n3) ∧ (n3 < (ll10 : Int))) <|
   T.osome pp10 <| fun (a13 : Addr) =>
   T.loads ((a13.add ((Int.toNat n3) * 4)).add 2) [.int .u32] <| fun (n14 : Int) =>
   T.need (((0 : Int) ≤ n3) ∧ (n3 < (ll10 : Int))) <|
   T.osome pp10 <| fun (a15 : Addr) =>
   T.loads ((a15.add ((Int.toNat n3) * 4)).add 3) [.int .i64] <| fun (n16 : Int) =>
   T.sem Tryd.prog (Sx.cmpS (BinOp.neq) 35 (Operand.tmp 20) (Operand.tmp 41) (.agg #[.int .i64 n5, .string s6, .int .u32 n7, .int .i64 n8]) (.agg #[.int .i64 n10, .string s12, .int .u32 n14, .int .i64 n16])) false [(false, [.bool])] <| fun (b17 : Bool) =>
   T.stable [(((a15.add ((Int.toNat n3) * 4)).add 3), [.int .i64 n16]), (((a13.add ((Int.toNat n3) * 4)).add 2), [.int .u32 n14]), (((a11.add ((Int.toNat n3) * 4)).add 1), [.string s12]), ((a9.add ((Int.toNat n3) * 4)), [.int .i64 n10])] <|
   cond b17
    (T.ret (.bool false))
    (T.again 0 [.bool b2, .int .i64 (IntKind.wrap .i64 (n3 + (1 : Int)))]))
   (T.ret (.bool true)))
theorem t_spandrellaw2_same_eq (pp00 : Option Addr) (ll00 cc00 : Nat) (pp10 : Option Addr) (ll10 cc10 : Nat) : xfun Tryd.prog [] Tryd.f23 [.slice pp00 ll00 cc00, .slice pp10 ll10 cc10] = t_spandrellaw2_same pp00 ll00 cc00 pp10 ll10 cc10 := by kernel_rfl

/-- The tree of 3. -/
def t_spandrellaw2_LexTokens (s0 : ByteArray) : T :=
 T.call Tryd.prog 20 [.string s0, .int .i64 (3000 : Int)] false [(false, [.string])] <| fun (s1 : ByteArray) =>
 T.call Tryd.prog 21 [.string s1] true [(false, [.slice 35]), (false, [.int .i64]), (false, [.int .i64])] <| fun (p2 : Option Addr) (l3 : Nat) (l4 : Nat) (n5 : Int) (n6 : Int) =>
 T.call Tryd.prog 22 [.string s1] true [(false, [.slice 105]), (false, [.int .i64]), (false, [.int .i64])] <| fun (p7 : Option Addr) (l8 : Nat) (l9 : Nat) (n10 : Int) (n11 : Int) =>
 T.call Tryd.prog 23 [.slice p2 l3 l4, .slice p7 l8 l9] false [(false, [.bool])] <| fun (b12 : Bool) =>
 cond b12
  (cond (n5 == n10)
   (cond (n6 == n11)
    (T.call Tryd.prog 24 [] false [(false, [.bool])] <| fun (b13 : Bool) =>
    T.ret (.bool b13))
    (T.ret (.bool false)))
   (T.ret (.bool false)))
  (T.ret (.bool false))
theorem t_spandrellaw2_LexTokens_eq (s0 : ByteArray) : xfun Tryd.prog [] Tryd.f3 [.string s0] = t_spandrellaw2_LexTokens s0 := by kernel_rfl

/-- The tree of 7. -/
def t_spandrellaw2_LexNumbers  : T :=
 T.sem Tryd.prog (Instr.buildSlice 44 7 #[(0, .string ⟨#[39, 39, 39]⟩), (1, .string ⟨#[48, 48, 55]⟩), (2, .string ⟨#[48, 120]⟩), (3, .string ⟨#[52, 50, 57, 52, 57, 54, 55, 50, 57, 54]⟩), (4, .string ⟨#[49, 97]⟩), (5, .string ⟨#[10]⟩), (6, .string ⟨#[97, 98, 99, 100, 101, 102, 103, 104, 105, 106, 107, 108, 109, 110, 111, 112, 113, 114, 115, 116, 117, 118, 119, 120, 121, 122, 97, 98, 99, 100, 101, 102, 103]⟩)]) false [(false, [.slice 0])] <| fun (p1 : Option Addr) (l2 : Nat) (l3 : Nat) =>
 T.loop [(false, [.bool]), (false, [.int .i64])] [.bool false, .int .i64 (0 : Int)] <| fun (b4 : Bool) (n5 : Int) =>
 cond (decide (n5 < (l2 : Int)))
  (T.need (((0 : Int) ≤ n5) ∧ (n5 < (l2 : Int))) <|
  T.osome p1 <| fun (a6 : Addr) =>
  T.loads (a6.add ((Int.toNat n5) * 1)) [.string] <| fun (s7 : ByteArray) =>
  T.call Tryd.prog 21 [.string s7] true [(false, [.slice 35]), (false, [.int .i64]), (false, [.int .i64])] <| fun (p8 : Option Addr) (l9 : Nat) (l10 : Nat) (n11 : Int) (n12 : Int) =>
  cond ((l9 : Int) != (0 : Int))
   (T.ret (.bool false))
   (cond (n11 != (0 : Int))
    (T.ret (.bool false))
    (cond (n12 != (20 : Int))
     (T.ret (.bool false))
     (T.again 0 [.bool b4, .int .i64 (IntKind.wrap .i64 (n5 + (1 : Int)))]))))
  (T.call Tryd.prog 21 [.string ⟨#[39, 32, 39, 32, 39, 59, 39, 52, 50, 57, 52, 57, 54, 55, 50, 57, 53]⟩] true [(false, [.slice 35]), (false, [.int .i64]), (false, [.int .i64])] <| fun (p6 : Option Addr) (l7 : Nat) (l8 : Nat) (n9 : Int) (n10 : Int) =>
  T.call Tryd.prog 29 [.string ⟨#[122, 51]⟩] true [(false, [.int .i64]), (false, [.bool]), (false, [.bool])] <| fun (n11 : Int) (b12 : Bool) (b13 : Bool) =>
  T.call Tryd.prog 29 [.string ⟨#[114, 56]⟩] true [(false, [.int .i64]), (false, [.bool]), (false, [.bool])] <| fun (n14 : Int) (b15 : Bool) (b16 : Bool) =>
  cond (n10 == (0 : Int))
   (cond ((l7 : Int) == (3 : Int))
    (T.need (((0 : Int) ≤ (0 : Int)) ∧ ((0 : Int) < (l7 : Int))) <|
    T.osome p6 <| fun (a17 : Addr) =>
    T.loads (a17.add 2) [.int .u32] <| fun (n18 : Int) =>
    cond (n18 == (32 : Int))
     (T.need (((0 : Int) ≤ (1 : Int)) ∧ ((1 : Int) < (l7 : Int))) <|
     T.osome p6 <| fun (a19 : Addr) =>
     T.loads ((a19.add 4).add 2) [.int .u32] <| fun (n20 : Int) =>
     cond (n20 == (59 : Int))
      (T.need (((0 : Int) ≤ (2 : Int)) ∧ ((2 : Int) < (l7 : Int))) <|
      T.osome p6 <| fun (a21 : Addr) =>
      T.loads ((a21.add 8).add 2) [.int .u32] <| fun (n22 : Int) =>
      cond (n22 == (4294967295 : Int))
       (T.call Tryd.prog 30 [.string ⟨#[114, 55]⟩] false [(false, [.bool])] <| fun (b23 : Bool) =>
       cond (!b23)
        (T.call Tryd.prog 30 [.string ⟨#[114, 56]⟩] false [(false, [.bool])] <| fun (b24 : Bool) =>
        cond b24
         (T.call Tryd.prog 30 [.string ⟨#[95]⟩] false [(false, [.bool])] <| fun (b25 : Bool) =>
         cond b25
          (T.call Tryd.prog 30 [.string ⟨#[]⟩] false [(false, [.bool])] <| fun (b26 : Bool) =>
          cond (!b26)
           (cond (n11 == (3 : Int))
            (cond b12
             (cond b13
              (cond (n14 == (0 : Int))
               (cond (!b15)
                (cond (!b16)
                 (T.call Tryd.prog 24 [] false [(false, [.bool])] <| fun (b27 : Bool) =>
                 T.ret (.bool b27))
                 (T.ret (.bool false)))
                (T.ret (.bool false)))
               (T.ret (.bool false)))
              (T.ret (.bool false)))
             (T.ret (.bool false)))
            (T.ret (.bool false)))
           (T.ret (.bool false)))
          (T.ret (.bool false)))
         (T.ret (.bool false)))
        (T.ret (.bool false)))
       (T.ret (.bool false)))
      (T.ret (.bool false)))
     (T.ret (.bool false)))
    (T.ret (.bool false)))
   (T.ret (.bool false)))
theorem t_spandrellaw2_LexNumbers_eq  : xfun Tryd.prog [] Tryd.f7 [] = t_spandrellaw2_LexNumbers  := by kernel_rfl

end Go.Sx
