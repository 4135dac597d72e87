/- Trees of functions, each checked by the kernel against the code. No condition. -/
import Derived.Test.YtnjohginlglonaaGreatDoorSxF
import Derived.Test.YtnjohginlglonaaGreatDoorProg
import Derived.KernelRfl
set_option linter.unusedVariables false
set_option linter.unusedSimpArgs false
set_option linter.deprecated false
set_option maxRecDepth 100000
namespace Go.Sx
open Go.Proofs
/-- The tree of 94. -/
def t_spandrelref5_registers (n0 : Int) (n1_0 : Int) (n2_0 : Int) (n3_0 : Int) (n4_0 : Int) : T :=
 T.new [.int .i64 n0, .int .i64 n1_0, .int .i64 n2_0, .int .i32 n3_0, .int .i64 n4_0] 100 <| fun (a1 : Addr) =>
 T.loads a1 [.int .i64] <| fun (n2 : Int) =>
 T.call Tryz.prog 93 [.int .i64 n2] false [(false, [.int .i64])] <| fun (n3 : Int) =>
 T.join [(false, [.int .i64]), (false, [.int .i64])]
  (cond (n3 == (2 : Int))
   (cond (n3 == (2 : Int))
    (T.again 0 [.int .i64 (8 : Int), .int .i64 (0 : Int)])
    (cond (n3 == (3 : Int))
     (T.again 0 [.int .i64 (4 : Int), .int .i64 (0 : Int)])
     (cond (n3 == (4 : Int))
      (T.again 0 [.int .i64 (8 : Int), .int .i64 (8 : Int)])
      (cond (n3 == (5 : Int))
       (T.again 0 [.int .i64 (4 : Int), .int .i64 (4 : Int)])
       (cond (n3 == (6 : Int))
        (T.again 0 [.int .i64 (8 : Int), .int .i64 (4 : Int)])
        (cond (n3 == (7 : Int))
         (T.again 0 [.int .i64 (4 : Int), .int .i64 (8 : Int)])
         (T.again 0 [.int .i64 (0 : Int), .int .i64 (0 : Int)])))))))
   (cond (n3 == (8 : Int))
    (cond (n3 == (8 : Int))
     (T.again 0 [.int .i64 (8 : Int), .int .i64 (0 : Int)])
     (cond (n3 == (3 : Int))
      (T.again 0 [.int .i64 (4 : Int), .int .i64 (0 : Int)])
      (cond (n3 == (4 : Int))
       (T.again 0 [.int .i64 (8 : Int), .int .i64 (8 : Int)])
       (cond (n3 == (5 : Int))
        (T.again 0 [.int .i64 (4 : Int), .int .i64 (4 : Int)])
        (cond (n3 == (6 : Int))
         (T.again 0 [.int .i64 (8 : Int), .int .i64 (4 : Int)])
         (cond (n3 == (7 : Int))
          (T.again 0 [.int .i64 (4 : Int), .int .i64 (8 : Int)])
          (T.again 0 [.int .i64 (0 : Int), .int .i64 (0 : Int)])))))))
    (cond (n3 == (10 : Int))
     (cond (n3 == (10 : Int))
      (T.again 0 [.int .i64 (8 : Int), .int .i64 (0 : Int)])
      (cond (n3 == (3 : Int))
       (T.again 0 [.int .i64 (4 : Int), .int .i64 (0 : Int)])
       (cond (n3 == (4 : Int))
        (T.again 0 [.int .i64 (8 : Int), .int .i64 (8 : Int)])
        (cond (n3 == (5 : Int))
         (T.again 0 [.int .i64 (4 : Int), .int .i64 (4 : Int)])
         (cond (n3 == (6 : Int))
          (T.again 0 [.int .i64 (8 : Int), .int .i64 (4 : Int)])
          (cond (n3 == (7 : Int))
           (T.again 0 [.int .i64 (4 : Int), .int .i64 (8 : Int)])
           (T.again 0 [.int .i64 (0 : Int), .int .i64 (0 : Int)])))))))
     (cond (n3 == (11 : Int))
      (cond (n3 == (11 : Int))
       (T.again 0 [.int .i64 (8 : Int), .int .i64 (0 : Int)])
       (cond (n3 == (3 : Int))
        (T.again 0 [.int .i64 (4 : Int), .int .i64 (0 : Int)])
        (cond (n3 == (4 : Int))
         (T.again 0 [.int .i64 (8 : Int), .int .i64 (8 : Int)])
         (cond (n3 == (5 : Int))
          (T.again 0 [.int .i64 (4 : Int), .int .i64 (4 : Int)])
          (cond (n3 == (6 : Int))
           (T.again 0 [.int .i64 (8 : Int), .int .i64 (4 : Int)])
           (cond (n3 == (7 : Int))
            (T.again 0 [.int .i64 (4 : Int), .int .i64 (8 : Int)])
            (T.again 0 [.int .i64 (0 : Int), .int .i64 (0 : Int)])))))))
      (cond (n3 == (13 : Int))
       (T.again 0 [.int .i64 (8 : Int), .int .i64 (0 : Int)])
       (cond (n3 == (3 : Int))
        (T.again 0 [.int .i64 (4 : Int), .int .i64 (0 : Int)])
        (cond (n3 == (4 : Int))
         (T.again 0 [.int .i64 (8 : Int), .int .i64 (8 : Int)])
         (cond (n3 == (5 : Int))
          (T.again 0 [.int .i64 (4 : Int), .int .i64 (4 : Int)])
          (cond (n3 == (6 : Int))
           (T.again 0 [.int .i64 (8 : Int), .int .i64 (4 : Int)])
           (cond (n3 == (7 : Int))
            (T.again 0 [.int .i64 (4 : Int), .int .i64 (8 : Int)])
            (T.again 0 [.int .i64 (0 : Int), .int .i64 (0 : Int)]))))))))))) <| fun (n4 : Int) (n5 : Int) =>
 T.loads (a1.add 1) [.int .i64] <| fun (n6 : Int) =>
 cond (decide (n6 < (0 : Int)))
  (T.ret (.bool false))
  (T.loads (a1.add 2) [.int .i64] <| fun (n7 : Int) =>
  cond (decide (n7 < (0 : Int)))
   (T.ret (.bool false))
   (T.loads (a1.add 1) [.int .i64] <| fun (n8 : Int) =>
   cond (decide (n8 ≥ n4))
    (cond (decide (n4 > (0 : Int)))
     (T.ret (.bool false))
     (T.loads (a1.add 1) [.int .i64] <| fun (n9 : Int) =>
     cond (n9 != (0 : Int))
      (T.ret (.bool false))
      (T.loads (a1.add 2) [.int .i64] <| fun (n10 : Int) =>
      cond (decide (n10 ≥ n5))
       (cond (decide (n5 > (0 : Int)))
        (T.ret (.bool false))
        (T.loads (a1.add 2) [.int .i64] <| fun (n11 : Int) =>
        cond (n11 != (0 : Int))
         (T.ret (.bool false))
         (cond (n3 != (7 : Int))
          (T.ret (.bool true))
          (T.loads (a1.add 3) [.int .i32] <| fun (n12 : Int) =>
          cond (decide (n12 ≥ (0 : Int)))
           (T.loads (a1.add 3) [.int .i32] <| fun (n13 : Int) =>
           T.ret (.bool (decide (n13 ≤ (7 : Int)))))
           (T.ret (.bool false))))))
       (cond (n3 != (7 : Int))
        (T.ret (.bool true))
        (T.loads (a1.add 3) [.int .i32] <| fun (n11 : Int) =>
        cond (decide (n11 ≥ (0 : Int)))
         (T.loads (a1.add 3) [.int .i32] <| fun (n12 : Int) =>
         T.ret (.bool (decide (n12 ≤ (7 : Int)))))
         (T.ret (.bool false)))))))
    (T.loads (a1.add 2) [.int .i64] <| fun (n9 : Int) =>
    cond (decide (n9 ≥ n5))
     (cond (decide (n5 > (0 : Int)))
      (T.ret (.bool false))
      (T.loads (a1.add 2) [.int .i64] <| fun (n10 : Int) =>
      cond (n10 != (0 : Int))
       (T.ret (.bool false))
       (cond (n3 != (7 : Int))
        (T.ret (.bool true))
        (T.loads (a1.add 3) [.int .i32] <| fun (n11 : Int) =>
        cond (decide (n11 ≥ (0 : Int)))
         (T.loads (a1.add 3) [.int .i32] <| fun (n12 : Int) =>
         T.ret (.bool (decide (n12 ≤ (7 : Int)))))
         (T.ret (.bool false))))))
     (cond (n3 != (7 : Int))
      (T.ret (.bool true))
      (T.loads (a1.add 3) [.int .i32] <| fun (n10 : Int) =>
      cond (decide (n10 ≥ (0 : Int)))
       (T.loads (a1.add 3) [.int .i32] <| fun (n11 : Int) =>
       T.ret (.bool (decide (n11 ≤ (7 : Int)))))
       (T.ret (.bool false)))))))
theorem t_spandrelref5_registers_eq (n0 : Int) (n1_0 : Int) (n2_0 : Int) (n3_0 : Int) (n4_0 : Int) : xfun Tryz.prog [1025] Tryz.f94 [.agg #[.int .i64 n0, .int .i64 n1_0, .int .i64 n2_0, .int .i32 n3_0, .int .i64 n4_0]] = t_spandrelref5_registers n0 n1_0 n2_0 n3_0 n4_0 := by kernel_rfl

/-- The tree of 7. -/
def t_spandrelref10_Read (pp00 : Option Addr) (ll00 cc00 : Nat) : T :=
 T.new [.slice none 0 0, .slice none 0 0, .slice none 0 0, .slice none 0 0] 28 <| fun (a1 : Addr) =>
 T.new [.int .i64 (0 : Int), .int .i64 (0 : Int)] 34 <| fun (a2 : Addr) =>
 cond (decide ((ll00 : Int) > (1048576 : Int)))
  (T.stores a1 [.slice none 0 0, .slice none 0 0, .slice none 0 0, .slice none 0 0] <|
  T.stores a2 [.int .i64 (0 : Int), .int .i64 (3 : Int)] <|
  T.loads a1 [.slice 102, .slice 102, .slice 78, .slice 9] <| fun (p3 : Option Addr) (l4 : Nat) (l5 : Nat) (p6 : Option Addr) (l7 : Nat) (l8 : Nat) (p9 : Option Addr) (l10 : Nat) (l11 : Nat) (p12 : Option Addr) (l13 : Nat) (l14 : Nat) =>
  T.loads a2 [.int .i64, .int .i64] <| fun (n15 : Int) (n16 : Int) =>
  T.ret (.tuple #[.agg #[.slice p3 l4 l5, .slice p6 l7 l8, .slice p9 l10 l11, .slice p12 l13 l14], .agg #[.int .i64 n15, .int .i64 n16]]))
  (T.loop [(false, [.int .i64])] [.int .i64 (0 : Int)] <| fun (n3 : Int) =>
  cond (decide (n3 < (5 : Int)))
   (cond (decide (n3 ≥ (ll00 : Int)))
    (T.stores a1 [.slice none 0 0, .slice none 0 0, .slice none 0 0, .slice none 0 0] <|
    T.stores a2 [.int .i64 n3, .int .i64 (15 : Int)] <|
    T.loads a1 [.slice 102, .slice 102, .slice 78, .slice 9] <| fun (p4 : Option Addr) (l5 : Nat) (l6 : Nat) (p7 : Option Addr) (l8 : Nat) (l9 : Nat) (p10 : Option Addr) (l11 : Nat) (l12 : Nat) (p13 : Option Addr) (l14 : Nat) (l15 : Nat) =>
    T.loads a2 [.int .i64, .int .i64] <| fun (n16 : Int) (n17 : Int) =>
    T.ret (.tuple #[.agg #[.slice p4 l5 l6, .slice p7 l8 l9, .slice p10 l11 l12, .slice p13 l14 l15], .agg #[.int .i64 n16, .int .i64 n17]]))
    (T.need (((0 : Int) ≤ n3) ∧ (n3 < (ll00 : Int))) <|
    T.osome pp00 <| fun (a4 : Addr) =>
    T.loads (a4.add ((Int.toNat n3) * 1)) [.int .u8] <| fun (n5 : Int) =>
    T.need (((0 : Int) ≤ n3) ∧ (n3 < (5 : Int))) <|
    cond (n5 != (sbyte ⟨#[83, 80, 65, 78, 1]⟩ n3))
     (T.stores a1 [.slice none 0 0, .slice none 0 0, .slice none 0 0, .slice none 0 0] <|
     T.stores a2 [.int .i64 n3, .int .i64 (15 : Int)] <|
     T.loads a1 [.slice 102, .slice 102, .slice 78, .slice 9] <| fun (p6 : Option Addr) (l7 : Nat) (l8 : Nat) (p9 : Option Addr) (l10 : Nat) (l11 : Nat) (p12 : Option Addr) (l13 : Nat) (l14 : Nat) (p15 : Option Addr) (l16 : Nat) (l17 : Nat) =>
     T.loads a2 [.int .i64, .int .i64] <| fun (n18 : Int) (n19 : Int) =>
     T.ret (.tuple #[.agg #[.slice p6 l7 l8, .slice p9 l10 l11, .slice p12 l13 l14, .slice p15 l16 l17], .agg #[.int .i64 n18, .int .i64 n19]]))
     (T.again 0 [.int .i64 (IntKind.wrap .i64 (n3 + (1 : Int)))])))
   (T.new [.slice pp00 ll00 cc00, .int .i64 (5 : Int), .int .i64 (0 : Int), .int .i64 (0 : Int)] 67 <| fun (a4 : Addr) =>
   T.call Tryz.prog 21 [.pointer (some a4), .agg #[.slice none 0 0, .slice none 0 0, .slice none 0 0, .slice none 0 0], .bool false] false [(true, [.slice 102, .slice 102, .slice 78, .slice 9])] <| fun (p5 : Option Addr) (l6 : Nat) (l7 : Nat) (p8 : Option Addr) (l9 : Nat) (l10 : Nat) (p11 : Option Addr) (l12 : Nat) (l13 : Nat) (p14 : Option Addr) (l15 : Nat) (l16 : Nat) =>
   T.new [.slice none 0 0, .slice none 0 0, .slice none 0 0, .slice none 0 0] 28 <| fun (a17 : Addr) =>
   T.stores a17 [.slice p5 l6 l7, .slice p8 l9 l10, .slice p11 l12 l13, .slice p14 l15 l16] <|
   T.loads a17 [.slice 102, .slice 102, .slice 78, .slice 9] <| fun (p18 : Option Addr) (l19 : Nat) (l20 : Nat) (p21 : Option Addr) (l22 : Nat) (l23 : Nat) (p24 : Option Addr) (l25 : Nat) (l26 : Nat) (p27 : Option Addr) (l28 : Nat) (l29 : Nat) =>
   T.call Tryz.prog 21 [.pointer (some a4), .agg #[.slice p18 l19 l20, .slice p21 l22 l23, .slice p24 l25 l26, .slice p27 l28 l29], .bool true] false [(true, [.slice 102, .slice 102, .slice 78, .slice 9])] <| fun (p30 : Option Addr) (l31 : Nat) (l32 : Nat) (p33 : Option Addr) (l34 : Nat) (l35 : Nat) (p36 : Option Addr) (l37 : Nat) (l38 : Nat) (p39 : Option Addr) (l40 : Nat) (l41 : Nat) =>
   T.stores a17 [.slice p30 l31 l32, .slice p33 l34 l35, .slice p36 l37 l38, .slice p39 l40 l41] <|
   T.loads (a4.add 1) [.int .i64] <| fun (n42 : Int) =>
   T.call Tryz.prog 22 [.pointer (some a4), .int .i64 (2 : Int)] false [(false, [.int .u32])] <| fun (n43 : Int) =>
   T.join []
    (T.loads ((a4.add 2).add 1) [.int .i64] <| fun (n44 : Int) =>
    cond (n44 == (0 : Int))
     (cond (decide ((IntKind.wrap .i64 n43) > (8192 : Int)))
      (T.call Tryz.prog 23 [.pointer (some a4), .int .i64 n42, .int .i64 (4 : Int)] true [] <| T.again 1 [])
      (T.again 1 []))
     (T.again 1 [])) <| T.loop [(false, [.int .i64]), (false, [.int .i64])] [.int .i64 n42, .int .i64 (0 : Int)] <| fun (n44 : Int) (n45 : Int) =>
   cond (decide (n45 < (IntKind.wrap .i64 n43)))
    (T.loads ((a4.add 2).add 1) [.int .i64] <| fun (n46 : Int) =>
    cond (n46 == (0 : Int))
     (T.loads (a4.add 1) [.int .i64] <| fun (n47 : Int) =>
     T.call Tryz.prog 24 [.pointer (some a4)] false [(false, [.string])] <| fun (s48 : ByteArray) =>
     T.loads (a17.add 2) [.slice 78] <| fun (p49 : Option Addr) (l50 : Nat) (l51 : Nat) =>
     T.call Tryz.prog 25 [.pointer (some a4)] false [(true, [.slice 104, .int .u32])] <| fun (p52 : Option Addr) (l53 : Nat) (l54 : Nat) (n55 : Int) =>
     T.stable [((a17.add 2), [.slice p49 l50 l51])] <|
     T.sem Tryz.prog (Instr.buildSlice 25 1 #[(0, .agg #[.string s48, .slice p52 l53 l54, .int .u32 n55])]) false [(false, [.slice 0])] <| fun (p56 : Option Addr) (l57 : Nat) (l58 : Nat) =>
     T.stable [((a17.add 2), [.slice p49 l50 l51])] <|
     T.sem Tryz.prog (Builtin.append_ #[25, 25] 25 #[.slice p49 l50 l51, .slice p56 l57 l58]) false [(false, [.slice 0])] <| fun (p59 : Option Addr) (l60 : Nat) (l61 : Nat) =>
     T.stores (a17.add 2) [.slice p59 l60 l61] <|
     T.loads a17 [.slice 102, .slice 102, .slice 78, .slice 9] <| fun (p62 : Option Addr) (l63 : Nat) (l64 : Nat) (p65 : Option Addr) (l66 : Nat) (l67 : Nat) (p68 : Option Addr) (l69 : Nat) (l70 : Nat) (p71 : Option Addr) (l72 : Nat) (l73 : Nat) =>
     T.call Tryz.prog 26 [.pointer (some a4), .int .i64 n47, .agg #[.slice p62 l63 l64, .slice p65 l66 l67, .slice p68 l69 l70, .slice p71 l72 l73]] true [] <| T.again 1 [.int .i64 n47, .int .i64 (IntKind.wrap .i64 (n45 + (1 : Int)))])
     (T.call Tryz.prog 22 [.pointer (some a4), .int .i64 (2 : Int)] false [(false, [.int .u32])] <| fun (n47 : Int) =>
     T.loop [(false, [.int .i64]), (false, [.int .i64])] [.int .i64 n44, .int .i64 (0 : Int)] <| fun (n48 : Int) (n49 : Int) =>
     cond (decide (n49 < (IntKind.wrap .i64 n47)))
      (T.loads ((a4.add 2).add 1) [.int .i64] <| fun (n50 : Int) =>
      cond (n50 == (0 : Int))
       (T.loads (a4.add 1) [.int .i64] <| fun (n51 : Int) =>
       T.loads (a17.add 3) [.slice 9] <| fun (p52 : Option Addr) (l53 : Nat) (l54 : Nat) =>
       T.call Tryz.prog 24 [.pointer (some a4)] false [(false, [.string])] <| fun (s55 : ByteArray) =>
       T.stable [((a17.add 3), [.slice p52 l53 l54])] <|
       T.sem Tryz.prog (Instr.buildSlice 26 1 #[(0, .string s55)]) false [(false, [.slice 0])] <| fun (p56 : Option Addr) (l57 : Nat) (l58 : Nat) =>
       T.stable [((a17.add 3), [.slice p52 l53 l54])] <|
       T.sem Tryz.prog (Builtin.append_ #[26, 26] 26 #[.slice p52 l53 l54, .slice p56 l57 l58]) false [(false, [.slice 0])] <| fun (p59 : Option Addr) (l60 : Nat) (l61 : Nat) =>
       T.stores (a17.add 3) [.slice p59 l60 l61] <|
       T.loads a17 [.slice 102, .slice 102, .slice 78, .slice 9] <| fun (p62 : Option Addr) (l63 : Nat) (l64 : Nat) (p65 : Option Addr) (l66 : Nat) (l67 : Nat) (p68 : Option Addr) (l69 : Nat) (l70 : Nat) (p71 : Option Addr) (l72 : Nat) (l73 : Nat) =>
       T.call Tryz.prog 26 [.pointer (some a4), .int .i64 n51, .agg #[.slice p62 l63 l64, .slice p65 l66 l67, .slice p68 l69 l70, .slice p71 l72 l73]] true [] <| T.again 2 [.int .i64 n51, .int .i64 (IntKind.wrap .i64 (n49 + (1 : Int)))])
       (T.join []
        (T.loads ((a4.add 2).add 1) [.int .i64] <| fun (n51 : Int) =>
        cond (n51 == (0 : Int))
         (T.loads (a4.add 1) [.int .i64] <| fun (n52 : Int) =>
         cond (decide (n52 < (ll00 : Int)))
          (T.loads (a4.add 1) [.int .i64] <| fun (n53 : Int) =>
          T.call Tryz.prog 23 [.pointer (some a4), .int .i64 n53, .int .i64 (14 : Int)] true [] <| T.again 3 [])
          (T.again 3 []))
         (T.again 3 [])) <| T.loads ((a4.add 2).add 1) [.int .i64] <| fun (n51 : Int) =>
       cond (n51 != (0 : Int))
        (T.loads (a4.add 2) [.int .i64, .int .i64] <| fun (n52 : Int) (n53 : Int) =>
        T.stores a1 [.slice none 0 0, .slice none 0 0, .slice none 0 0, .slice none 0 0] <|
        T.stable [((a4.add 2), [.int .i64 n52, .int .i64 n53])] <|
        T.stores a2 [.int .i64 n52, .int .i64 n53] <|
        T.loads a1 [.slice 102, .slice 102, .slice 78, .slice 9] <| fun (p54 : Option Addr) (l55 : Nat) (l56 : Nat) (p57 : Option Addr) (l58 : Nat) (l59 : Nat) (p60 : Option Addr) (l61 : Nat) (l62 : Nat) (p63 : Option Addr) (l64 : Nat) (l65 : Nat) =>
        T.loads a2 [.int .i64, .int .i64] <| fun (n66 : Int) (n67 : Int) =>
        T.ret (.tuple #[.agg #[.slice p54 l55 l56, .slice p57 l58 l59, .slice p60 l61 l62, .slice p63 l64 l65], .agg #[.int .i64 n66, .int .i64 n67]]))
        (T.loads a17 [.slice 102, .slice 102, .slice 78, .slice 9] <| fun (p52 : Option Addr) (l53 : Nat) (l54 : Nat) (p55 : Option Addr) (l56 : Nat) (l57 : Nat) (p58 : Option Addr) (l59 : Nat) (l60 : Nat) (p61 : Option Addr) (l62 : Nat) (l63 : Nat) =>
        T.stores a1 [.slice p52 l53 l54, .slice p55 l56 l57, .slice p58 l59 l60, .slice p61 l62 l63] <|
        T.stores a2 [.int .i64 (0 : Int), .int .i64 (0 : Int)] <|
        T.loads a1 [.slice 102, .slice 102, .slice 78, .slice 9] <| fun (p64 : Option Addr) (l65 : Nat) (l66 : Nat) (p67 : Option Addr) (l68 : Nat) (l69 : Nat) (p70 : Option Addr) (l71 : Nat) (l72 : Nat) (p73 : Option Addr) (l74 : Nat) (l75 : Nat) =>
        T.loads a2 [.int .i64, .int .i64] <| fun (n76 : Int) (n77 : Int) =>
        T.ret (.tuple #[.agg #[.slice p64 l65 l66, .slice p67 l68 l69, .slice p70 l71 l72, .slice p73 l74 l75], .agg #[.int .i64 n76, .int .i64 n77]]))))
      (T.join []
       (T.loads ((a4.add 2).add 1) [.int .i64] <| fun (n50 : Int) =>
       cond (n50 == (0 : Int))
        (T.loads (a4.add 1) [.int .i64] <| fun (n51 : Int) =>
        cond (decide (n51 < (ll00 : Int)))
         (T.loads (a4.add 1) [.int .i64] <| fun (n52 : Int) =>
         T.call Tryz.prog 23 [.pointer (some a4), .int .i64 n52, .int .i64 (14 : Int)] true [] <| T.again 3 [])
         (T.again 3 []))
        (T.again 3 [])) <| T.loads ((a4.add 2).add 1) [.int .i64] <| fun (n50 : Int) =>
      cond (n50 != (0 : Int))
       (T.loads (a4.add 2) [.int .i64, .int .i64] <| fun (n51 : Int) (n52 : Int) =>
       T.stores a1 [.slice none 0 0, .slice none 0 0, .slice none 0 0, .slice none 0 0] <|
       T.stable [((a4.add 2), [.int .i64 n51, .int .i64 n52])] <|
       T.stores a2 [.int .i64 n51, .int .i64 n52] <|
       T.loads a1 [.slice 102, .slice 102, .slice 78, .slice 9] <| fun (p53 : Option Addr) (l54 : Nat) (l55 : Nat) (p56 : Option Addr) (l57 : Nat) (l58 : Nat) (p59 : Option Addr) (l60 : Nat) (l61 : Nat) (p62 : Option Addr) (l63 : Nat) (l64 : Nat) =>
       T.loads a2 [.int .i64, .int .i64] <| fun (n65 : Int) (n66 : Int) =>
       T.ret (.tuple #[.agg #[.slice p53 l54 l55, .slice p56 l57 l58, .slice p59 l60 l61, .slice p62 l63 l64], .agg #[.int .i64 n65, .int .i64 n66]]))
       (T.loads a17 [.slice 102, .slice 102, .slice 78, .slice 9] <| fun (p51 : Option Addr) (l52 : Nat) (l53 : Nat) (p54 : Option Addr) (l55 : Nat) (l56 : Nat) (p57 : Option Addr) (l58 : Nat) (l59 : Nat) (p60 : Option Addr) (l61 : Nat) (l62 : Nat) =>
       T.stores a1 [.slice p51 l52 l53, .slice p54 l55 l56, .slice p57 l58 l59, .slice p60 l61 l62] <|
       T.stores a2 [.int .i64 (0 : Int), .int .i64 (0 : Int)] <|
       T.loads a1 [.slice 102, .slice 102, .slice 78, .slice 9] <| fun (p63 : Option Addr) (l64 : Nat) (l65 : Nat) (p66 : Option Addr) (l67 : Nat) (l68 : Nat) (p69 : Option Addr) (l70 : Nat) (l71 : Nat) (p72 : Option Addr) (l73 : Nat) (l74 : Nat) =>
       T.loads a2 [.int .i64, .int .i64] <| fun (n75 : Int) (n76 : Int) =>
       T.ret (.tuple #[.agg #[.slice p63 l64 l65, .slice p66 l67 l68, .slice p69 l70 l71, .slice p72 l73 l74], .agg #[.int .i64 n75, .int .i64 n76]])))))
    (T.call Tryz.prog 22 [.pointer (some a4), .int .i64 (2 : Int)] false [(false, [.int .u32])] <| fun (n46 : Int) =>
    T.loop [(false, [.int .i64]), (false, [.int .i64])] [.int .i64 n44, .int .i64 (0 : Int)] <| fun (n47 : Int) (n48 : Int) =>
    cond (decide (n48 < (IntKind.wrap .i64 n46)))
     (T.loads ((a4.add 2).add 1) [.int .i64] <| fun (n49 : Int) =>
     cond (n49 == (0 : Int))
      (T.loads (a4.add 1) [.int .i64] <| fun (n50 : Int) =>
      T.loads (a17.add 3) [.slice 9] <| fun (p51 : Option Addr) (l52 : Nat) (l53 : Nat) =>
      T.call Tryz.prog 24 [.pointer (some a4)] false [(false, [.string])] <| fun (s54 : ByteArray) =>
      T.stable [((a17.add 3), [.slice p51 l52 l53])] <|
      T.sem Tryz.prog (Instr.buildSlice 26 1 #[(0, .string s54)]) false [(false, [.slice 0])] <| fun (p55 : Option Addr) (l56 : Nat) (l57 : Nat) =>
      T.stable [((a17.add 3), [.slice p51 l52 l53])] <|
      T.sem Tryz.prog (Builtin.append_ #[26, 26] 26 #[.slice p51 l52 l53, .slice p55 l56 l57]) false [(false, [.slice 0])] <| fun (p58 : Option Addr) (l59 : Nat) (l60 : Nat) =>
      T.stores (a17.add 3) [.slice p58 l59 l60] <|
      T.loads a17 [.slice 102, .slice 102, .slice 78, .slice 9] <| fun (p61 : Option Addr) (l62 : Nat) (l63 : Nat) (p64 : Option Addr) (l65 : Nat) (l66 : Nat) (p67 : Option Addr) (l68 : Nat) (l69 : Nat) (p70 : Option Addr) (l71 : Nat) (l72 : Nat) =>
      T.call Tryz.prog 26 [.pointer (some a4), .int .i64 n50, .agg #[.slice p61 l62 l63, .slice p64 l65 l66, .slice p67 l68 l69, .slice p70 l71 l72]] true [] <| T.again 2 [.int .i64 n50, .int .i64 (IntKind.wrap .i64 (n48 + (1 : Int)))])
      (T.join []
       (T.loads ((a4.add 2).add 1) [.int .i64] <| fun (n50 : Int) =>
       cond (n50 == (0 : Int))
        (T.loads (a4.add 1) [.int .i64] <| fun (n51 : Int) =>
        cond (decide (n51 < (ll00 : Int)))
         (T.loads (a4.add 1) [.int .i64] <| fun (n52 : Int) =>
         T.call Tryz.prog 23 [.pointer (some a4), .int .i64 n52, .int .i64 (14 : Int)] true [] <| T.again 3 [])
         (T.again 3 []))
        (T.again 3 [])) <| T.loads ((a4.add 2).add 1) [.int .i64] <| fun (n50 : Int) =>
      cond (n50 != (0 : Int))
       (T.loads (a4.add 2) [.int .i64, .int .i64] <| fun (n51 : Int) (n52 : Int) =>
       T.stores a1 [.slice none 0 0, .slice none 0 0, .slice none 0 0, .slice none 0 0] <|
       T.stable [((a4.add 2), [.int .i64 n51, .int .i64 n52])] <|
       T.stores a2 [.int .i64 n51, .int .i64 n52] <|
       T.loads a1 [.slice 102, .slice 102, .slice 78, .slice 9] <| fun (p53 : Option Addr) (l54 : Nat) (l55 : Nat) (p56 : Option Addr) (l57 : Nat) (l58 : Nat) (p59 : Option Addr) (l60 : Nat) (l61 : Nat) (p62 : Option Addr) (l63 : Nat) (l64 : Nat) =>
       T.loads a2 [.int .i64, .int .i64] <| fun (n65 : Int) (n66 : Int) =>
       T.ret (.tuple #[.agg #[.slice p53 l54 l55, .slice p56 l57 l58, .slice p59 l60 l61, .slice p62 l63 l64], .agg #[.int .i64 n65, .int .i64 n66]]))
       (T.loads a17 [.slice 102, .slice 102, .slice 78, .slice 9] <| fun (p51 : Option Addr) (l52 : Nat) (l53 : Nat) (p54 : Option Addr) (l55 : Nat) (l56 : Nat) (p57 : Option Addr) (l58 : Nat) (l59 : Nat) (p60 : Option Addr) (l61 : Nat) (l62 : Nat) =>
       T.stores a1 [.slice p51 l52 l53, .slice p54 l55 l56, .slice p57 l58 l59, .slice p60 l61 l62] <|
       T.stores a2 [.int .i64 (0 : Int), .int .i64 (0 : Int)] <|
       T.loads a1 [.slice 102, .slice 102, .slice 78, .slice 9] <| fun (p63 : Option Addr) (l64 : Nat) (l65 : Nat) (p66 : Option Addr) (l67 : Nat) (l68 : Nat) (p69 : Option Addr) (l70 : Nat) (l71 : Nat) (p72 : Option Addr) (l73 : Nat) (l74 : Nat) =>
       T.loads a2 [.int .i64, .int .i64] <| fun (n75 : Int) (n76 : Int) =>
       T.ret (.tuple #[.agg #[.slice p63 l64 l65, .slice p66 l67 l68, .slice p69 l70 l71, .slice p72 l73 l74], .agg #[.int .i64 n75, .int .i64 n76]]))))
     (T.join []
      (T.loads ((a4.add 2).add 1) [.int .i64] <| fun (n49 : Int) =>
      cond (n49 == (0 : Int))
       (T.loads (a4.add 1) [.int .i64] <| fun (n50 : Int) =>
       cond (decide (n50 < (ll00 : Int)))
        (T.loads (a4.add 1) [.int .i64] <| fun (n51 : Int) =>
        T.call Tryz.prog 23 [.pointer (some a4), .int .i64 n51, .int .i64 (14 : Int)] true [] <| T.again 3 [])
        (T.again 3 []))
       (T.again 3 [])) <| T.loads ((a4.add 2).add 1) [.int .i64] <| fun (n49 : Int) =>
     cond (n49 != (0 : Int))
      (T.loads (a4.add 2) [.int .i64, .int .i64] <| fun (n50 : Int) (n51 : Int) =>
      T.stores a1 [.slice none 0 0, .slice none 0 0, .slice none 0 0, .slice none 0 0] <|
      T.stable [((a4.add 2), [.int .i64 n50, .int .i64 n51])] <|
      T.stores a2 [.int .i64 n50, .int .i64 n51] <|
      T.loads a1 [.slice 102, .slice 102, .slice 78, .slice 9] <| fun (p52 : Option Addr) (l53 : Nat) (l54 : Nat) (p55 : Option Addr) (l56 : Nat) (l57 : Nat) (p58 : Option Addr) (l59 : Nat) (l60 : Nat) (p61 : Option Addr) (l62 : Nat) (l63 : Nat) =>
      T.loads a2 [.int .i64, .int .i64] <| fun (n64 : Int) (n65 : Int) =>
      T.ret (.tuple #[.agg #[.slice p52 l53 l54, .slice p55 l56 l57, .slice p58 l59 l60, .slice p61 l62 l63], .agg #[.int .i64 n64, .int .i64 n65]]))
      (T.loads a17 [.slice 102, .slice 102, .slice 78, .slice 9] <| fun (p50 : Option Addr) (l51 : Nat) (l52 : Nat) (p53 : Option Addr) (l54 : Nat) (l55 : Nat) (p56 : Option Addr) (l57 : Nat) (l58 : Nat) (p59 : Option Addr) (l60 : Nat) (l61 : Nat) =>
      T.stores a1 [.slice p50 l51 l52, .slice p53 l54 l55, .slice p56 l57 l58, .slice p59 l60 l61] <|
      T.stores a2 [.int .i64 (0 : Int), .int .i64 (0 : Int)] <|
      T.loads a1 [.slice 102, .slice 102, .slice 78, .slice 9] <| fun (p62 : Option Addr) (l63 : Nat) (l64 : Nat) (p65 : Option Addr) (l66 : Nat) (l67 : Nat) (p68 : Option Addr) (l69 : Nat) (l70 : Nat) (p71 : Option Addr) (l72 : Nat) (l73 : Nat) =>
      T.loads a2 [.int .i64, .int .i64] <| fun (n74 : Int) (n75 : Int) =>
      T.ret (.tuple #[.agg #[.slice p62 l63 l64, .slice p65 l66 l67, .slice p68 l69 l70, .slice p71 l72 l73], .agg #[.int .i64 n74, .int .i64 n75]]))))))
theorem t_spandrelref10_Read_eq (pp00 : Option Addr) (ll00 cc00 : Nat) : xfun Tryz.prog [1016, 1032] Tryz.f7 [.slice pp00 ll00 cc00] = t_spandrelref10_Read pp00 ll00 cc00 := by kernel_rfl

/-- The tree of 21. -/
def t_spandrelref10_reader__section (p0 : Option Addr) (pp10 : Option Addr) (ll10 cc10 : Nat) (pp11 : Option Addr) (ll11 cc11 : Nat) (pp12 : Option Addr) (ll12 cc12 : Nat) (pp13 : Option Addr) (ll13 cc13 : Nat) (b2 : Bool) : T :=
 T.new [.slice pp10 ll10 cc10, .slice pp11 ll11 cc11, .slice pp12 ll12 cc12, .slice pp13 ll13 cc13] 28 <| fun (a3 : Addr) =>
 T.new [.slice none 0 0, .slice none 0 0, .slice none 0 0, .slice none 0 0] 28 <| fun (a4 : Addr) =>
 T.osome p0 <| fun (a5 : Addr) =>
 T.loads (a5.add 1) [.int .i64] <| fun (n6 : Int) =>
 T.call Tryz.prog 22 [.pointer p0, .int .i64 (2 : Int)] false [(false, [.int .u32])] <| fun (n7 : Int) =>
 T.join []
  (T.osome p0 <| fun (a8 : Addr) =>
  T.loads ((a8.add 2).add 1) [.int .i64] <| fun (n9 : Int) =>
  cond (n9 == (0 : Int))
   (T.loads a3 [.slice 102] <| fun (p10 : Option Addr) (l11 : Nat) (l12 : Nat) =>
   cond (decide ((IntKind.wrap .i64 ((IntKind.wrap .i64 n7) + (l11 : Int))) > (8192 : Int)))
    (T.call Tryz.prog 23 [.pointer p0, .int .i64 n6, .int .i64 (4 : Int)] true [] <| T.again 0 [])
    (T.again 0 []))
   (T.again 0 [])) <| T.loop [(false, [.int .i64]), (false, [.int .i64])] [.int .i64 n6, .int .i64 (0 : Int)] <| fun (n8 : Int) (n9 : Int) =>
 cond (decide (n9 < (IntKind.wrap .i64 n7)))
  (T.osome p0 <| fun (a10 : Addr) =>
  T.loads ((a10.add 2).add 1) [.int .i64] <| fun (n11 : Int) =>
  cond (n11 == (0 : Int))
   (T.osome p0 <| fun (a12 : Addr) =>
   T.loads (a12.add 1) [.int .i64] <| fun (n13 : Int) =>
   T.call Tryz.prog 59 [.pointer p0] false [(true, [.int .i64, .string, .int .i64, .int .i64, .int .i64, .int .i32, .int .i64, .slice 104, .int .u32, .int .i64])] <| fun (n14 : Int) (s15 : ByteArray) (n16 : Int) (n17 : Int) (n18 : Int) (n19 : Int) (n20 : Int) (p21 : Option Addr) (l22 : Nat) (l23 : Nat) (n24 : Int) (n25 : Int) =>
   T.new [.int .i64 (0 : Int), .string ⟨#[]⟩, .int .i64 (0 : Int), .int .i64 (0 : Int), .int .i64 (0 : Int), .int .i32 (0 : Int), .int .i64 (0 : Int), .slice none 0 0, .int .u32 (0 : Int), .int .i64 (0 : Int)] 102 <| fun (a26 : Addr) =>
   T.stores a26 [.int .i64 n14, .string s15, .int .i64 n16, .int .i64 n17, .int .i64 n18, .int .i32 n19, .int .i64 n20, .slice p21 l22 l23, .int .u32 n24, .int .i64 n25] <|
   T.join []
    (cond b2
     (T.loads (a3.add 1) [.slice 102] <| fun (p27 : Option Addr) (l28 : Nat) (l29 : Nat) =>
     T.loads a26 [.int .i64, .string, .int .i64, .int .i64, .int .i64, .int .i32, .int .i64, .slice 104, .int .u32, .int .i64] <| fun (n30 : Int) (s31 : ByteArray) (n32 : Int) (n33 : Int) (n34 : Int) (n35 : Int) (n36 : Int) (p37 : Option Addr) (l38 : Nat) (l39 : Nat) (n40 : Int) (n41 : Int) =>
     T.sem Tryz.prog (Instr.buildSlice 24 1 #[(0, .agg #[.int .i64 n30, .string s31, .int .i64 n32, .int .i64 n33, .int .i64 n34, .int .i32 n35, .int .i64 n36, .slice p37 l38 l39, .int .u32 n40, .int .i64 n41])]) false [(false, [.slice 0])] <| fun (p42 : Option Addr) (l43 : Nat) (l44 : Nat) =>
     T.sem Tryz.prog (Builtin.append_ #[24, 24] 24 #[.slice p27 l28 l29, .slice p42 l43 l44]) false [(false, [.slice 0])] <| fun (p45 : Option Addr) (l46 : Nat) (l47 : Nat) =>
     T.stores (a3.add 1) [.slice p45 l46 l47] <|
     T.again 1 [])
     (T.loads a3 [.slice 102] <| fun (p27 : Option Addr) (l28 : Nat) (l29 : Nat) =>
     T.loads a26 [.int .i64, .string, .int .i64, .int .i64, .int .i64, .int .i32, .int .i64, .slice 104, .int .u32, .int .i64] <| fun (n30 : Int) (s31 : ByteArray) (n32 : Int) (n33 : Int) (n34 : Int) (n35 : Int) (n36 : Int) (p37 : Option Addr) (l38 : Nat) (l39 : Nat) (n40 : Int) (n41 : Int) =>
     T.sem Tryz.prog (Instr.buildSlice 24 1 #[(0, .agg #[.int .i64 n30, .string s31, .int .i64 n32, .int .i64 n33, .int .i64 n34, .int .i32 n35, .int .i64 n36, .slice p37 l38 l39, .int .u32 n40, .int .i64 n41])]) false [(false, [.slice 0])] <| fun (p42 : Option Addr) (l43 : Nat) (l44 : Nat) =>
     T.sem Tryz.prog (Builtin.append_ #[24, 24] 24 #[.slice p27 l28 l29, .slice p42 l43 l44]) false [(false, [.slice 0])] <| fun (p45 : Option Addr) (l46 : Nat) (l47 : Nat) =>
     T.stores a3 [.slice p45 l46 l47] <|
     T.again 1 [])) <| T.loads a3 [.slice 102, .slice 102, .slice 78, .slice 9] <| fun (p27 : Option Addr) (l28 : Nat) (l29 : Nat) (p30 : Option Addr) (l31 : Nat) (l32 : Nat) (p33 : Option Addr) (l34 : Nat) (l35 : Nat) (p36 : Option Addr) (l37 : Nat) (l38 : Nat) =>
   T.call Tryz.prog 26 [.pointer p0, .int .i64 n13, .agg #[.slice p27 l28 l29, .slice p30 l31 l32, .slice p33 l34 l35, .slice p36 l37 l38]] true [] <| T.again 0 [.int .i64 n13, .int .i64 (IntKind.wrap .i64 (n9 + (1 : Int)))])
   (T.loads a3 [.slice 102, .slice 102, .slice 78, .slice 9] <| fun (p12 : Option Addr) (l13 : Nat) (l14 : Nat) (p15 : Option Addr) (l16 : Nat) (l17 : Nat) (p18 : Option Addr) (l19 : Nat) (l20 : Nat) (p21 : Option Addr) (l22 : Nat) (l23 : Nat) =>
   T.stores a4 [.slice p12 l13 l14, .slice p15 l16 l17, .slice p18 l19 l20, .slice p21 l22 l23] <|
   T.loads a4 [.slice 102, .slice 102, .slice 78, .slice 9] <| fun (p24 : Option Addr) (l25 : Nat) (l26 : Nat) (p27 : Option Addr) (l28 : Nat) (l29 : Nat) (p30 : Option Addr) (l31 : Nat) (l32 : Nat) (p33 : Option Addr) (l34 : Nat) (l35 : Nat) =>
   T.ret (.agg #[.slice p24 l25 l26, .slice p27 l28 l29, .slice p30 l31 l32, .slice p33 l34 l35])))
  (T.loads a3 [.slice 102, .slice 102, .slice 78, .slice 9] <| fun (p10 : Option Addr) (l11 : Nat) (l12 : Nat) (p13 : Option Addr) (l14 : Nat) (l15 : Nat) (p16 : Option Addr) (l17 : Nat) (l18 : Nat) (p19 : Option Addr) (l20 : Nat) (l21 : Nat) =>
  T.stores a4 [.slice p10 l11 l12, .slice p13 l14 l15, .slice p16 l17 l18, .slice p19 l20 l21] <|
  T.loads a4 [.slice 102, .slice 102, .slice 78, .slice 9] <| fun (p22 : Option Addr) (l23 : Nat) (l24 : Nat) (p25 : Option Addr) (l26 : Nat) (l27 : Nat) (p28 : Option Addr) (l29 : Nat) (l30 : Nat) (p31 : Option Addr) (l32 : Nat) (l33 : Nat) =>
  T.ret (.agg #[.slice p22 l23 l24, .slice p25 l26 l27, .slice p28 l29 l30, .slice p31 l32 l33]))
theorem t_spandrelref10_reader__section_eq (p0 : Option Addr) (pp10 : Option Addr) (ll10 cc10 : Nat) (pp11 : Option Addr) (ll11 cc11 : Nat) (pp12 : Option Addr) (ll12 cc12 : Nat) (pp13 : Option Addr) (ll13 cc13 : Nat) (b2 : Bool) : xfun Tryz.prog [1005, 1013] Tryz.f21 [.pointer p0, .agg #[.slice pp10 ll10 cc10, .slice pp11 ll11 cc11, .slice pp12 ll12 cc12, .slice pp13 ll13 cc13], .bool b2] = t_spandrelref10_reader__section p0 pp10 ll10 cc10 pp11 ll11 cc11 pp12 ll12 cc12 pp13 ll13 cc13 b2 := by kernel_rfl

end Go.Sx
