/- Trees of functions, each checked by the kernel against the code. No condition. -/
import Derived.Test.YtnjohginlglonaaGreatDoorSxF
import Derived.Test.YtnjohginlglonaaGreatDoorProg
import Derived.KernelRfl
set_option linter.unusedVariables false
set_option linter.unusedSimpArgs false
set_option linter.deprecated false
set_option maxRecDepth 100000
namespace Go.Sx
open Go.Proofs
/-- The tree of 34. -/
def t_object_reader__item (p0 : Option Addr) (n1 : Int) : T :=
 T.new [.int .i64 (0 : Int), .string ⟨#[]⟩, .int .i64 (0 : Int), .int .i64 (0 : Int), .int .i64 (0 : Int), .int .i32 (0 : Int), .int .i64 (0 : Int), .slice none 0 0, .int .u32 (0 : Int), .int .i64 (0 : Int)] 102 <| fun (a2 : Addr) =>
 T.osome p0 <| fun (a3 : Addr) =>
 T.loads (a3.add 1) [.int .i64] <| fun (n4 : Int) =>
 T.call Tryz.prog 81 [.pointer p0, .int .i64 (1 : Int)] false [(false, [.int .u32])] <| fun (n5 : Int) =>
 T.new [.int .i64 (0 : Int), .string ⟨#[]⟩, .int .i64 (0 : Int), .int .i64 (0 : Int), .int .i64 (0 : Int), .int .i32 (0 : Int), .int .i64 (0 : Int), .slice none 0 0, .int .u32 (0 : Int), .int .i64 (0 : Int)] 102 <| fun (a6 : Addr) =>
 T.stores a6 [.int .i64 (IntKind.wrap .i64 n5), .string ⟨#[]⟩, .int .i64 (0 : Int), .int .i64 (0 : Int), .int .i64 (0 : Int), .int .i32 (0 : Int), .int .i64 (0 : Int), .slice none 0 0, .int .u32 (0 : Int), .int .i64 (0 : Int)] <|
 T.join []
  (T.loads a6 [.int .i64] <| fun (n7 : Int) =>
  cond (n7 == (1 : Int))
   (T.call Tryz.prog 58 [.pointer p0] false [(false, [.string])] <| fun (s8 : ByteArray) =>
   T.stores (a6.add 1) [.string s8] <|
   T.again 0 [])
   (cond (n7 == (2 : Int))
    (T.call Tryz.prog 81 [.pointer p0, .int .i64 (1 : Int)] false [(false, [.int .u32])] <| fun (n8 : Int) =>
    T.stores (a6.add 2) [.int .i64 (IntKind.wrap .i64 n8)] <|
    T.call Tryz.prog 81 [.pointer p0, .int .i64 (1 : Int)] false [(false, [.int .u32])] <| fun (n9 : Int) =>
    T.call Tryz.prog 81 [.pointer p0, .int .i64 (1 : Int)] false [(false, [.int .u32])] <| fun (n10 : Int) =>
    T.stores ((a6.add 2).add 1) [.int .i64 (IntKind.wrap .i64 n9)] <|
    T.stores ((a6.add 2).add 2) [.int .i64 (IntKind.wrap .i64 n10)] <|
    T.call Tryz.prog 81 [.pointer p0, .int .i64 (4 : Int)] false [(false, [.int .u32])] <| fun (n11 : Int) =>
    T.stores ((a6.add 2).add 3) [.int .i32 (IntKind.wrap .i32 n11)] <|
    T.loads (a6.add 2) [.int .i64] <| fun (n12 : Int) =>
    T.call Tryz.prog 71 [.int .i64 n12] false [(false, [.bool])] <| fun (b13 : Bool) =>
    cond b13
     (T.call Tryz.prog 82 [.pointer p0] false [(true, [.slice 104, .int .u32])] <| fun (p14 : Option Addr) (l15 : Nat) (l16 : Nat) (n17 : Int) =>
     T.stores (a6.add 7) [.slice p14 l15 l16, .int .u32 n17] <|
     T.again 0 [])
     (T.again 0 []))
    (cond (n7 == (3 : Int))
     (T.call Tryz.prog 81 [.pointer p0, .int .i64 (2 : Int)] false [(false, [.int .u32])] <| fun (n8 : Int) =>
     T.stores (a6.add 9) [.int .i64 (IntKind.wrap .i64 n8)] <|
     T.again 0 [])
     (cond (n7 == (5 : Int))
      (T.call Tryz.prog 81 [.pointer p0, .int .i64 (2 : Int)] false [(false, [.int .u32])] <| fun (n8 : Int) =>
      T.call Tryz.prog 83 [.int .u32 n8, .int .i64 (2 : Int)] false [(false, [.int .i32])] <| fun (n9 : Int) =>
      T.stores (a6.add 9) [.int .i64 (IntKind.wrap .i64 n9)] <|
      T.again 0 [])
      (cond (n7 == (6 : Int))
       (T.call Tryz.prog 82 [.pointer p0] false [(true, [.slice 104, .int .u32])] <| fun (p8 : Option Addr) (l9 : Nat) (l10 : Nat) (n11 : Int) =>
       T.stores (a6.add 7) [.slice p8 l9 l10, .int .u32 n11] <|
       T.again 0 [])
       (cond (n7 == (7 : Int))
        (T.call Tryz.prog 81 [.pointer p0, .int .i64 (4 : Int)] false [(false, [.int .u32])] <| fun (n8 : Int) =>
        T.stores (a6.add 9) [.int .i64 (IntKind.wrap .i64 n8)] <|
        T.again 0 [])
        (cond (n7 == (4 : Int))
         (T.again 0 [])
         (T.call Tryz.prog 49 [.pointer p0, .int .i64 n4, .int .i64 (31 : Int)] true [] <| T.again 0 [])))))))) <| T.join []
  (T.loads a6 [.int .i64, .string, .int .i64, .int .i64, .int .i64, .int .i32, .int .i64, .slice 104, .int .u32, .int .i64] <| fun (n7 : Int) (s8 : ByteArray) (n9 : Int) (n10 : Int) (n11 : Int) (n12 : Int) (n13 : Int) (p14 : Option Addr) (l15 : Nat) (l16 : Nat) (n17 : Int) (n18 : Int) =>
  T.call Tryz.prog 68 [.agg #[.int .i64 n7, .string s8, .int .i64 n9, .int .i64 n10, .int .i64 n11, .int .i32 n12, .int .i64 n13, .slice p14 l15 l16, .int .u32 n17, .int .i64 n18], .int .i64 n1] false [(false, [.int .i64])] <| fun (n19 : Int) =>
  cond (n19 != (0 : Int))
   (T.call Tryz.prog 49 [.pointer p0, .int .i64 n4, .int .i64 (31 : Int)] true [] <| T.again 0 [])
   (T.loads a6 [.int .i64] <| fun (n20 : Int) =>
   cond (n20 == (1 : Int))
    (T.osome p0 <| fun (a21 : Addr) =>
    T.loads (a21.add 3) [.map 9 4] <| fun (r22 : Option Nat) =>
    T.loads (a6.add 1) [.string] <| fun (s23 : ByteArray) =>
    T.sem Tryz.prog (Instr.lookup 61 (.map r22) (.string s23) false) false [(false, [.bool])] <| fun (b24 : Bool) =>
    T.stable [(a6, [.int .i64 n20]), (a6, [.int .i64 n7, .string s8, .int .i64 n9, .int .i64 n10, .int .i64 n11, .int .i32 n12, .int .i64 n13, .slice p14 l15 l16, .int .u32 n17, .int .i64 n18])] <|
    cond b24
     (T.call Tryz.prog 49 [.pointer p0, .int .i64 n4, .int .i64 (31 : Int)] true [] <| T.again 0 [])
     (T.again 0 []))
    (T.again 0 []))) <| T.loads a6 [.int .i64] <| fun (n7 : Int) =>
 cond (n7 == (1 : Int))
  (T.osome p0 <| fun (a8 : Addr) =>
  T.loads (a8.add 3) [.map 9 4] <| fun (r9 : Option Nat) =>
  T.loads (a6.add 1) [.string] <| fun (s10 : ByteArray) =>
  T.semU Tryz.prog (Instr.mapUpdate 61 (.map r9) (.string s10) (.bool true)) <|
  T.loads a6 [.int .i64, .string, .int .i64, .int .i64, .int .i64, .int .i32, .int .i64, .slice 104, .int .u32, .int .i64] <| fun (n11 : Int) (s12 : ByteArray) (n13 : Int) (n14 : Int) (n15 : Int) (n16 : Int) (n17 : Int) (p18 : Option Addr) (l19 : Nat) (l20 : Nat) (n21 : Int) (n22 : Int) =>
  T.stores a2 [.int .i64 n11, .string s12, .int .i64 n13, .int .i64 n14, .int .i64 n15, .int .i32 n16, .int .i64 n17, .slice p18 l19 l20, .int .u32 n21, .int .i64 n22] <|
  T.loads a2 [.int .i64, .string, .int .i64, .int .i64, .int .i64, .int .i32, .int .i64, .slice 104, .int .u32, .int .i64] <| fun (n23 : Int) (s24 : ByteArray) (n25 : Int) (n26 : Int) (n27 : Int) (n28 : Int) (n29 : Int) (p30 : Option Addr) (l31 : Nat) (l32 : Nat) (n33 : Int) (n34 : Int) =>
  T.ret (.agg #[.int .i64 n23, .string s24, .int .i64 n25, .int .i64 n26, .int .i64 n27, .int .i32 n28, .int .i64 n29, .slice p30 l31 l32, .int .u32 n33, .int .i64 n34]))
  (T.loads a6 [.int .i64, .string, .int .i64, .int .i64, .int .i64, .int .i32, .int .i64, .slice 104, .int .u32, .int .i64] <| fun (n8 : Int) (s9 : ByteArray) (n10 : Int) (n11 : Int) (n12 : Int) (n13 : Int) (n14 : Int) (p15 : Option Addr) (l16 : Nat) (l17 : Nat) (n18 : Int) (n19 : Int) =>
  T.stores a2 [.int .i64 n8, .string s9, .int .i64 n10, .int .i64 n11, .int .i64 n12, .int .i32 n13, .int .i64 n14, .slice p15 l16 l17, .int .u32 n18, .int .i64 n19] <|
  T.loads a2 [.int .i64, .string, .int .i64, .int .i64, .int .i64, .int .i32, .int .i64, .slice 104, .int .u32, .int .i64] <| fun (n20 : Int) (s21 : ByteArray) (n22 : Int) (n23 : Int) (n24 : Int) (n25 : Int) (n26 : Int) (p27 : Option Addr) (l28 : Nat) (l29 : Nat) (n30 : Int) (n31 : Int) =>
  T.ret (.agg #[.int .i64 n20, .string s21, .int .i64 n22, .int .i64 n23, .int .i64 n24, .int .i32 n25, .int .i64 n26, .slice p27 l28 l29, .int .u32 n30, .int .i64 n31]))
theorem t_object_reader__item_eq (p0 : Option Addr) (n1 : Int) : xfun Tryz.prog [1022, 1024] Tryz.f52 [.pointer p0, .int .i64 n1] = t_object_reader__item p0 n1 := by kernel_rfl

/-- The tree of 33, at some arguments. -/
def t_object_reader__unit_1_u1 (a : Addr) : T :=
 T.new [.int .i64 (0 : Int), .string ⟨#[]⟩, .int .i64 (0 : Int), .int .i64 (0 : Int), .int .i64 (0 : Int), .int .i32 (0 : Int), .int .i64 (0 : Int), .slice none 0 0, .int .u32 (0 : Int), .int .i64 (0 : Int)] 102 <| fun (a1 : Addr) =>
 T.loads a [.pointer 63] <| fun (p2 : Option Addr) =>
 T.call Tryz.prog 52 [.pointer p2, .int .i64 (0 : Int)] false [(true, [.int .i64, .string, .int .i64, .int .i64, .int .i64, .int .i32, .int .i64, .slice 104, .int .u32, .int .i64])] <| fun (n3 : Int) (s4 : ByteArray) (n5 : Int) (n6 : Int) (n7 : Int) (n8 : Int) (n9 : Int) (p10 : Option Addr) (l11 : Nat) (l12 : Nat) (n13 : Int) (n14 : Int) =>
 T.stores a1 [.int .i64 n3, .string s4, .int .i64 n5, .int .i64 n6, .int .i64 n7, .int .i32 n8, .int .i64 n9, .slice p10 l11 l12, .int .u32 n13, .int .i64 n14] <|
 T.loads a1 [.int .i64, .string, .int .i64, .int .i64, .int .i64, .int .i32, .int .i64, .slice 104, .int .u32, .int .i64] <| fun (n15 : Int) (s16 : ByteArray) (n17 : Int) (n18 : Int) (n19 : Int) (n20 : Int) (n21 : Int) (p22 : Option Addr) (l23 : Nat) (l24 : Nat) (n25 : Int) (n26 : Int) =>
 T.ret (.agg #[.int .i64 n15, .string s16, .int .i64 n17, .int .i64 n18, .int .i64 n19, .int .i32 n20, .int .i64 n21, .slice p22 l23 l24, .int .u32 n25, .int .i64 n26])
theorem t_object_reader__unit_1_u1_eq (a : Addr) : xfun Tryz.prog [] Tryz.f51 [.pointer (some a)] = t_object_reader__unit_1_u1 a := by kernel_rfl

/-- The tree of 35, at some arguments. -/
def t_object_reader__unit_2_u2 (a : Addr) : T :=
 T.new [.int .i64 (0 : Int), .string ⟨#[]⟩, .int .i64 (0 : Int), .int .i64 (0 : Int), .int .i64 (0 : Int), .int .i32 (0 : Int), .int .i64 (0 : Int), .slice none 0 0, .int .u32 (0 : Int), .int .i64 (0 : Int)] 102 <| fun (a1 : Addr) =>
 T.loads a [.pointer 63] <| fun (p2 : Option Addr) =>
 T.call Tryz.prog 52 [.pointer p2, .int .i64 (1 : Int)] false [(true, [.int .i64, .string, .int .i64, .int .i64, .int .i64, .int .i32, .int .i64, .slice 104, .int .u32, .int .i64])] <| fun (n3 : Int) (s4 : ByteArray) (n5 : Int) (n6 : Int) (n7 : Int) (n8 : Int) (n9 : Int) (p10 : Option Addr) (l11 : Nat) (l12 : Nat) (n13 : Int) (n14 : Int) =>
 T.stores a1 [.int .i64 n3, .string s4, .int .i64 n5, .int .i64 n6, .int .i64 n7, .int .i32 n8, .int .i64 n9, .slice p10 l11 l12, .int .u32 n13, .int .i64 n14] <|
 T.loads a1 [.int .i64, .string, .int .i64, .int .i64, .int .i64, .int .i32, .int .i64, .slice 104, .int .u32, .int .i64] <| fun (n15 : Int) (s16 : ByteArray) (n17 : Int) (n18 : Int) (n19 : Int) (n20 : Int) (n21 : Int) (p22 : Option Addr) (l23 : Nat) (l24 : Nat) (n25 : Int) (n26 : Int) =>
 T.ret (.agg #[.int .i64 n15, .string s16, .int .i64 n17, .int .i64 n18, .int .i64 n19, .int .i32 n20, .int .i64 n21, .slice p22 l23 l24, .int .u32 n25, .int .i64 n26])
theorem t_object_reader__unit_2_u2_eq (a : Addr) : xfun Tryz.prog [] Tryz.f53 [.pointer (some a)] = t_object_reader__unit_2_u2 a := by kernel_rfl

/-- The tree of 39, at some arguments. -/
def t_object_reader__unit_3_u3 (a : Addr) (b : Addr) : T :=
 T.loads a [.pointer 63] <| fun (p1 : Option Addr) =>
 T.osome p1 <| fun (a2 : Addr) =>
 T.loads (a2.add 1) [.int .i64] <| fun (n3 : Int) =>
 T.loads a [.pointer 63] <| fun (p4 : Option Addr) =>
 T.call Tryz.prog 58 [.pointer p4] false [(false, [.string])] <| fun (s5 : ByteArray) =>
 T.loads a [.pointer 63] <| fun (p6 : Option Addr) =>
 T.osome p6 <| fun (a7 : Addr) =>
 T.loads (a7.add 3) [.map 9 4] <| fun (r8 : Option Nat) =>
 T.sem Tryz.prog (Instr.lookup 61 (.map r8) (.string s5) false) false [(false, [.bool])] <| fun (b9 : Bool) =>
 cond (!b9)
  (T.loads a [.pointer 63] <| fun (p10 : Option Addr) =>
  T.call Tryz.prog 49 [.pointer p10, .int .i64 n3, .int .i64 (31 : Int)] true [] <| T.stores b [.string s5] <|
  T.ret (.string s5))
  (T.loads b [.string] <| fun (s10 : ByteArray) =>
  cond ((Op.bytesLess (ByteArray.toList s5) (ByteArray.toList s10)) || ((ByteArray.toList s5) == (ByteArray.toList s10)))
   (T.loads a [.pointer 63] <| fun (p11 : Option Addr) =>
   T.call Tryz.prog 49 [.pointer p11, .int .i64 n3, .int .i64 (31 : Int)] true [] <| T.stores b [.string s5] <|
   T.ret (.string s5))
   (T.stores b [.string s5] <|
   T.ret (.string s5)))
theorem t_object_reader__unit_3_u3_eq (a : Addr) (b : Addr) : xfun Tryz.prog [] Tryz.f57 [.pointer (some a), .pointer (some b)] = t_object_reader__unit_3_u3 a b := by kernel_rfl

end Go.Sx
