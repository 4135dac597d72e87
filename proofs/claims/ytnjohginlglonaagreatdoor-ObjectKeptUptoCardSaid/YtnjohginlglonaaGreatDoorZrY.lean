/- Trees of functions, each checked by the kernel against the code. No condition. -/
import Derived.Test.YtnjohginlglonaaGreatDoorSxF
import Derived.Test.YtnjohginlglonaaGreatDoorProg
import Derived.KernelRfl
set_option linter.unusedVariables false
set_option linter.unusedSimpArgs false
set_option linter.deprecated false
set_option maxRecDepth 100000
namespace Go.Sx
open Go.Proofs
/-- The tree of 42, at some arguments. -/
def t_spandrelref8_Right_s0 (k : Int) (s : ByteArray) (o : Int) (a : Int) (b : Int) (n : Int) (f : Int) (p : Option Addr) (l : Nat) (c : Nat) (m : Int) (q : Int) : T :=
 T.new [.int .i64 k, .string s, .int .i64 o, .int .i64 a, .int .i64 b, .int .i32 n, .int .i64 f, .slice p l c, .int .u32 m, .int .i64 q] 102 <| fun (a1 : Addr) =>
 T.join [(false, [.bool])]
  (T.loads a1 [.int .i64] <| fun (n2 : Int) =>
  cond (n2 == (1 : Int))
   (T.loads (a1.add 1) [.string] <| fun (s3 : ByteArray) =>
   T.call Tryz.prog 43 [.string s3] false [(false, [.bool])] <| fun (b4 : Bool) =>
   cond b4
    (T.loads a1 [.int .i64, .string, .int .i64, .int .i64, .int .i64, .int .i32, .int .i64, .slice 104, .int .u32, .int .i64] <| fun (n5 : Int) (s6 : ByteArray) (n7 : Int) (n8 : Int) (n9 : Int) (n10 : Int) (n11 : Int) (p12 : Option Addr) (l13 : Nat) (l14 : Nat) (n15 : Int) (n16 : Int) =>
    T.call Tryz.prog 72 [.agg #[.int .i64 n5, .string s6, .int .i64 n7, .int .i64 n8, .int .i64 n9, .int .i32 n10, .int .i64 n11, .slice p12 l13 l14, .int .u32 n15, .int .i64 n16], .bool false, .bool true, .bool true, .bool true] false [(false, [.bool])] <| fun (b17 : Bool) =>
    T.again 0 [.bool b17])
    (T.again 0 [.bool false]))
   (cond (n2 == (2 : Int))
    (T.loads (a1.add 2) [.int .i64, .int .i64, .int .i64, .int .i32, .int .i64] <| fun (n3 : Int) (n4 : Int) (n5 : Int) (n6 : Int) (n7 : Int) =>
    T.new [.int .i64 (0 : Int), .int .i64 (0 : Int), .int .i64 (0 : Int), .int .i32 (0 : Int), .int .i64 (0 : Int)] 100 <| fun (a8 : Addr) =>
    T.stores a8 [.int .i64 n3, .int .i64 n4, .int .i64 n5, .int .i32 n6, .int .i64 n7] <|
    T.loads (a8.add 4) [.int .i64] <| fun (n9 : Int) =>
    T.join []
     (T.loads a8 [.int .i64] <| fun (n10 : Int) =>
     T.call Tryz.prog 73 [.int .i64 n10] false [(false, [.bool])] <| fun (b11 : Bool) =>
     cond b11
      (T.stores (a8.add 4) [.int .i64 (1 : Int)] <|
      T.again 1 [])
      (T.again 1 [])) <| T.join [(false, [.bool])]
     (cond (n9 == (0 : Int))
      (T.loads a8 [.int .i64, .int .i64, .int .i64, .int .i32, .int .i64] <| fun (n10 : Int) (n11 : Int) (n12 : Int) (n13 : Int) (n14 : Int) =>
      T.call Tryz.prog 74 [.agg #[.int .i64 n10, .int .i64 n11, .int .i64 n12, .int .i32 n13, .int .i64 n14]] false [(false, [.int .i64])] <| fun (n15 : Int) =>
      cond (n15 == (0 : Int))
       (T.loads a1 [.int .i64, .string, .int .i64, .int .i64, .int .i64, .int .i32, .int .i64, .slice 104, .int .u32, .int .i64] <| fun (n16 : Int) (s17 : ByteArray) (n18 : Int) (n19 : Int) (n20 : Int) (n21 : Int) (n22 : Int) (p23 : Option Addr) (l24 : Nat) (l25 : Nat) (n26 : Int) (n27 : Int) =>
       T.call Tryz.prog 72 [.agg #[.int .i64 n16, .string s17, .int .i64 n18, .int .i64 n19, .int .i64 n20, .int .i32 n21, .int .i64 n22, .slice p23 l24 l25, .int .u32 n26, .int .i64 n27], .bool true, .bool false, .bool false, .bool true] false [(false, [.bool])] <| fun (b28 : Bool) =>
       T.again 1 [.bool b28])
       (T.again 1 [.bool false]))
      (T.again 1 [.bool false])) <| fun (b10 : Bool) =>
    T.loads a8 [.int .i64] <| fun (n11 : Int) =>
    T.call Tryz.prog 75 [.int .i64 n11] false [(false, [.bool])] <| fun (b12 : Bool) =>
    cond b12
     (cond b10
      (T.loads (a8.add 3) [.int .i32] <| fun (n13 : Int) =>
      cond (n13 == (0 : Int))
       (T.loads (a1.add 7) [.slice 104, .int .u32] <| fun (p14 : Option Addr) (l15 : Nat) (l16 : Nat) (n17 : Int) =>
       T.call Tryz.prog 44 [.agg #[.slice p14 l15 l16, .int .u32 n17]] false [(false, [.bool])] <| fun (b18 : Bool) =>
       T.again 0 [.bool b18])
       (T.again 0 [.bool false]))
      (T.again 0 [.bool false]))
     (cond b10
      (T.loads a1 [.int .i64, .string, .int .i64, .int .i64, .int .i64, .int .i32, .int .i64, .slice 104, .int .u32, .int .i64] <| fun (n13 : Int) (s14 : ByteArray) (n15 : Int) (n16 : Int) (n17 : Int) (n18 : Int) (n19 : Int) (p20 : Option Addr) (l21 : Nat) (l22 : Nat) (n23 : Int) (n24 : Int) =>
      T.call Tryz.prog 72 [.agg #[.int .i64 n13, .string s14, .int .i64 n15, .int .i64 n16, .int .i64 n17, .int .i32 n18, .int .i64 n19, .slice p20 l21 l22, .int .u32 n23, .int .i64 n24], .bool false, .bool false, .bool true, .bool false] false [(false, [.bool])] <| fun (b25 : Bool) =>
      T.again 0 [.bool b25])
      (T.again 0 [.bool false])))
    (cond (n2 == (3 : Int))
     (T.loads (a1.add 9) [.int .i64] <| fun (n3 : Int) =>
     T.call Tryz.prog 76 [.int .i64 n3] false [(false, [.bool])] <| fun (b4 : Bool) =>
     cond b4
      (T.loads a1 [.int .i64, .string, .int .i64, .int .i64, .int .i64, .int .i32, .int .i64, .slice 104, .int .u32, .int .i64] <| fun (n5 : Int) (s6 : ByteArray) (n7 : Int) (n8 : Int) (n9 : Int) (n10 : Int) (n11 : Int) (p12 : Option Addr) (l13 : Nat) (l14 : Nat) (n15 : Int) (n16 : Int) =>
      T.call Tryz.prog 72 [.agg #[.int .i64 n5, .string s6, .int .i64 n7, .int .i64 n8, .int .i64 n9, .int .i32 n10, .int .i64 n11, .slice p12 l13 l14, .int .u32 n15, .int .i64 n16], .bool true, .bool true, .bool true, .bool false] false [(false, [.bool])] <| fun (b17 : Bool) =>
      T.again 0 [.bool b17])
      (T.again 0 [.bool false]))
     (cond (n2 == (4 : Int))
      (T.loads a1 [.int .i64, .string, .int .i64, .int .i64, .int .i64, .int .i32, .int .i64, .slice 104, .int .u32, .int .i64] <| fun (n3 : Int) (s4 : ByteArray) (n5 : Int) (n6 : Int) (n7 : Int) (n8 : Int) (n9 : Int) (p10 : Option Addr) (l11 : Nat) (l12 : Nat) (n13 : Int) (n14 : Int) =>
      T.call Tryz.prog 72 [.agg #[.int .i64 n3, .string s4, .int .i64 n5, .int .i64 n6, .int .i64 n7, .int .i32 n8, .int .i64 n9, .slice p10 l11 l12, .int .u32 n13, .int .i64 n14], .bool true, .bool true, .bool true, .bool true] false [(false, [.bool])] <| fun (b15 : Bool) =>
      T.again 0 [.bool b15])
      (cond (n2 == (5 : Int))
       (T.again 0 [.bool false])
       (cond (n2 == (6 : Int))
        (T.again 0 [.bool false])
        (cond (n2 == (7 : Int))
         (T.again 0 [.bool false])
         (T.again 0 [.bool false])))))))) <| fun (b2 : Bool) =>
 cond (!b2)
  (T.ret (.int .i64 (31 : Int)))
  (T.ret (.int .i64 (0 : Int)))
theorem t_spandrelref8_Right_s0_eq (k : Int) (s : ByteArray) (o : Int) (a : Int) (b : Int) (n : Int) (f : Int) (p : Option Addr) (l : Nat) (c : Nat) (m : Int) (q : Int) : xfun Tryz.prog [1012, 1013, 1026] Tryz.f42 [.agg #[.int .i64 k, .string s, .int .i64 o, .int .i64 a, .int .i64 b, .int .i32 n, .int .i64 f, .slice p l c, .int .u32 m, .int .i64 q], .int .i64 (0 : Int)] = t_spandrelref8_Right_s0 k s o a b n f p l c m q := by kernel_rfl

/-- The tree of 42, at some arguments. -/
def t_spandrelref8_Right_s1 (k : Int) (s : ByteArray) (o : Int) (a : Int) (b : Int) (n : Int) (f : Int) (p : Option Addr) (l : Nat) (c : Nat) (m : Int) (q : Int) : T :=
 T.new [.int .i64 k, .string s, .int .i64 o, .int .i64 a, .int .i64 b, .int .i32 n, .int .i64 f, .slice p l c, .int .u32 m, .int .i64 q] 102 <| fun (a1 : Addr) =>
 T.join [(false, [.bool])]
  (T.loads a1 [.int .i64] <| fun (n2 : Int) =>
  cond (n2 == (1 : Int))
   (T.loads (a1.add 1) [.string] <| fun (s3 : ByteArray) =>
   T.call Tryz.prog 43 [.string s3] false [(false, [.bool])] <| fun (b4 : Bool) =>
   cond b4
    (T.loads a1 [.int .i64, .string, .int .i64, .int .i64, .int .i64, .int .i32, .int .i64, .slice 104, .int .u32, .int .i64] <| fun (n5 : Int) (s6 : ByteArray) (n7 : Int) (n8 : Int) (n9 : Int) (n10 : Int) (n11 : Int) (p12 : Option Addr) (l13 : Nat) (l14 : Nat) (n15 : Int) (n16 : Int) =>
    T.call Tryz.prog 72 [.agg #[.int .i64 n5, .string s6, .int .i64 n7, .int .i64 n8, .int .i64 n9, .int .i32 n10, .int .i64 n11, .slice p12 l13 l14, .int .u32 n15, .int .i64 n16], .bool false, .bool true, .bool true, .bool true] false [(false, [.bool])] <| fun (b17 : Bool) =>
    T.again 0 [.bool b17])
    (T.again 0 [.bool false]))
   (cond (n2 == (2 : Int))
    (T.loads (a1.add 2) [.int .i64, .int .i64, .int .i64, .int .i32, .int .i64] <| fun (n3 : Int) (n4 : Int) (n5 : Int) (n6 : Int) (n7 : Int) =>
    T.new [.int .i64 (0 : Int), .int .i64 (0 : Int), .int .i64 (0 : Int), .int .i32 (0 : Int), .int .i64 (0 : Int)] 100 <| fun (a8 : Addr) =>
    T.stores a8 [.int .i64 n3, .int .i64 n4, .int .i64 n5, .int .i32 n6, .int .i64 n7] <|
    T.loads (a8.add 4) [.int .i64] <| fun (n9 : Int) =>
    T.join []
     (T.loads a8 [.int .i64] <| fun (n10 : Int) =>
     T.call Tryz.prog 73 [.int .i64 n10] false [(false, [.bool])] <| fun (b11 : Bool) =>
     cond b11
      (T.stores (a8.add 4) [.int .i64 (1 : Int)] <|
      T.again 1 [])
      (T.again 1 [])) <| T.join [(false, [.bool])]
     (T.again 1 [.bool false]) <| fun (b10 : Bool) =>
    T.loads a8 [.int .i64] <| fun (n11 : Int) =>
    T.call Tryz.prog 75 [.int .i64 n11] false [(false, [.bool])] <| fun (b12 : Bool) =>
    cond b12
     (cond b10
      (T.loads (a8.add 3) [.int .i32] <| fun (n13 : Int) =>
      cond (n13 == (0 : Int))
       (T.loads (a1.add 7) [.slice 104, .int .u32] <| fun (p14 : Option Addr) (l15 : Nat) (l16 : Nat) (n17 : Int) =>
       T.call Tryz.prog 44 [.agg #[.slice p14 l15 l16, .int .u32 n17]] false [(false, [.bool])] <| fun (b18 : Bool) =>
       T.again 0 [.bool b18])
       (T.again 0 [.bool false]))
      (T.again 0 [.bool false]))
     (cond b10
      (T.loads a1 [.int .i64, .string, .int .i64, .int .i64, .int .i64, .int .i32, .int .i64, .slice 104, .int .u32, .int .i64] <| fun (n13 : Int) (s14 : ByteArray) (n15 : Int) (n16 : Int) (n17 : Int) (n18 : Int) (n19 : Int) (p20 : Option Addr) (l21 : Nat) (l22 : Nat) (n23 : Int) (n24 : Int) =>
      T.call Tryz.prog 72 [.agg #[.int .i64 n13, .string s14, .int .i64 n15, .int .i64 n16, .int .i64 n17, .int .i32 n18, .int .i64 n19, .slice p20 l21 l22, .int .u32 n23, .int .i64 n24], .bool false, .bool false, .bool true, .bool false] false [(false, [.bool])] <| fun (b25 : Bool) =>
      T.again 0 [.bool b25])
      (T.again 0 [.bool false])))
    (cond (n2 == (3 : Int))
     (T.loads (a1.add 9) [.int .i64] <| fun (n3 : Int) =>
     T.call Tryz.prog 76 [.int .i64 n3] false [(false, [.bool])] <| fun (b4 : Bool) =>
     cond b4
      (T.loads a1 [.int .i64, .string, .int .i64, .int .i64, .int .i64, .int .i32, .int .i64, .slice 104, .int .u32, .int .i64] <| fun (n5 : Int) (s6 : ByteArray) (n7 : Int) (n8 : Int) (n9 : Int) (n10 : Int) (n11 : Int) (p12 : Option Addr) (l13 : Nat) (l14 : Nat) (n15 : Int) (n16 : Int) =>
      T.call Tryz.prog 72 [.agg #[.int .i64 n5, .string s6, .int .i64 n7, .int .i64 n8, .int .i64 n9, .int .i32 n10, .int .i64 n11, .slice p12 l13 l14, .int .u32 n15, .int .i64 n16], .bool true, .bool true, .bool true, .bool false] false [(false, [.bool])] <| fun (b17 : Bool) =>
      T.again 0 [.bool b17])
      (T.again 0 [.bool false]))
     (cond (n2 == (4 : Int))
      (T.again 0 [.bool false])
      (cond (n2 == (5 : Int))
       (T.loads (a1.add 9) [.int .i64] <| fun (n3 : Int) =>
       cond (decide (n3 ≥ (-128 : Int)))
        (T.loads (a1.add 9) [.int .i64] <| fun (n4 : Int) =>
        cond (decide (n4 ≤ (255 : Int)))
         (T.loads a1 [.int .i64, .string, .int .i64, .int .i64, .int .i64, .int .i32, .int .i64, .slice 104, .int .u32, .int .i64] <| fun (n5 : Int) (s6 : ByteArray) (n7 : Int) (n8 : Int) (n9 : Int) (n10 : Int) (n11 : Int) (p12 : Option Addr) (l13 : Nat) (l14 : Nat) (n15 : Int) (n16 : Int) =>
         T.call Tryz.prog 72 [.agg #[.int .i64 n5, .string s6, .int .i64 n7, .int .i64 n8, .int .i64 n9, .int .i32 n10, .int .i64 n11, .slice p12 l13 l14, .int .u32 n15, .int .i64 n16], .bool true, .bool true, .bool true, .bool false] false [(false, [.bool])] <| fun (b17 : Bool) =>
         T.again 0 [.bool b17])
         (T.again 0 [.bool false]))
        (T.again 0 [.bool false]))
       (cond (n2 == (6 : Int))
        (T.loads (a1.add 7) [.slice 104, .int .u32] <| fun (p3 : Option Addr) (l4 : Nat) (l5 : Nat) (n6 : Int) =>
        T.call Tryz.prog 44 [.agg #[.slice p3 l4 l5, .int .u32 n6]] false [(false, [.bool])] <| fun (b7 : Bool) =>
        cond b7
         (T.loads a1 [.int .i64, .string, .int .i64, .int .i64, .int .i64, .int .i32, .int .i64, .slice 104, .int .u32, .int .i64] <| fun (n8 : Int) (s9 : ByteArray) (n10 : Int) (n11 : Int) (n12 : Int) (n13 : Int) (n14 : Int) (p15 : Option Addr) (l16 : Nat) (l17 : Nat) (n18 : Int) (n19 : Int) =>
         T.call Tryz.prog 72 [.agg #[.int .i64 n8, .string s9, .int .i64 n10, .int .i64 n11, .int .i64 n12, .int .i32 n13, .int .i64 n14, .slice p15 l16 l17, .int .u32 n18, .int .i64 n19], .bool true, .bool true, .bool false, .bool true] false [(false, [.bool])] <| fun (b20 : Bool) =>
         T.again 0 [.bool b20])
         (T.again 0 [.bool false]))
        (cond (n2 == (7 : Int))
         (T.loads (a1.add 9) [.int .i64] <| fun (n3 : Int) =>
         cond (decide (n3 ≥ (0 : Int)))
          (T.loads (a1.add 9) [.int .i64] <| fun (n4 : Int) =>
          cond (decide (n4 ≤ (1048576 : Int)))
           (T.loads a1 [.int .i64, .string, .int .i64, .int .i64, .int .i64, .int .i32, .int .i64, .slice 104, .int .u32, .int .i64] <| fun (n5 : Int) (s6 : ByteArray) (n7 : Int) (n8 : Int) (n9 : Int) (n10 : Int) (n11 : Int) (p12 : Option Addr) (l13 : Nat) (l14 : Nat) (n15 : Int) (n16 : Int) =>
           T.call Tryz.prog 72 [.agg #[.int .i64 n5, .string s6, .int .i64 n7, .int .i64 n8, .int .i64 n9, .int .i32 n10, .int .i64 n11, .slice p12 l13 l14, .int .u32 n15, .int .i64 n16], .bool true, .bool true, .bool true, .bool false] false [(false, [.bool])] <| fun (b17 : Bool) =>
           T.again 0 [.bool b17])
           (T.again 0 [.bool false]))
          (T.again 0 [.bool false]))
         (T.again 0 [.bool false])))))))) <| fun (b2 : Bool) =>
 cond (!b2)
  (T.ret (.int .i64 (31 : Int)))
  (T.ret (.int .i64 (0 : Int)))
theorem t_spandrelref8_Right_s1_eq (k : Int) (s : ByteArray) (o : Int) (a : Int) (b : Int) (n : Int) (f : Int) (p : Option Addr) (l : Nat) (c : Nat) (m : Int) (q : Int) : xfun Tryz.prog [1012, 1013, 1026] Tryz.f42 [.agg #[.int .i64 k, .string s, .int .i64 o, .int .i64 a, .int .i64 b, .int .i32 n, .int .i64 f, .slice p l c, .int .u32 m, .int .i64 q], .int .i64 (1 : Int)] = t_spandrelref8_Right_s1 k s o a b n f p l c m q := by kernel_rfl

end Go.Sx
