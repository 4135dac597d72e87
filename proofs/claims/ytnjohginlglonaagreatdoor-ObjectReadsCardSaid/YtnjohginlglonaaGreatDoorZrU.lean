/- Trees of functions, each checked by the kernel against the code. No condition. -/
import Derived.Test.YtnjohginlglonaaGreatDoorSxF
import Derived.Test.YtnjohginlglonaaGreatDoorProg
import Derived.KernelRfl
set_option linter.unusedVariables false
set_option linter.unusedSimpArgs false
set_option linter.deprecated false
set_option maxRecDepth 100000
namespace Go.Sx
open Go.Proofs
/-- The tree of 22. -/
def t_spandrelref10_reader__number (p0 : Option Addr) (n1 : Int) : T :=
 T.osome p0 <| fun (a2 : Addr) =>
 T.loads ((a2.add 2).add 1) [.int .i64] <| fun (n3 : Int) =>
 cond (n3 != (0 : Int))
  (T.ret (.int .u32 (0 : Int)))
  (T.osome p0 <| fun (a4 : Addr) =>
  T.loads a4 [.slice 5] <| fun (p5 : Option Addr) (l6 : Nat) (l7 : Nat) =>
  T.osome p0 <| fun (a8 : Addr) =>
  T.loads (a8.add 1) [.int .i64] <| fun (n9 : Int) =>
  T.call Tryz.prog 60 [.slice p5 l6 l7, .int .i64 n9, .int .i64 n1] true [(false, [.int .u32]), (false, [.int .i64])] <| fun (n10 : Int) (n11 : Int) =>
  cond (n11 != (0 : Int))
   (T.osome p0 <| fun (a12 : Addr) =>
   T.loads a12 [.slice 5] <| fun (p13 : Option Addr) (l14 : Nat) (l15 : Nat) =>
   T.call Tryz.prog 23 [.pointer p0, .int .i64 (l14 : Int), .int .i64 (10 : Int)] true [] <| T.ret (.int .u32 (0 : Int)))
   (T.osome p0 <| fun (a12 : Addr) =>
   T.loads (a12.add 1) [.int .i64] <| fun (n13 : Int) =>
   T.osome p0 <| fun (a14 : Addr) =>
   T.stores (a14.add 1) [.int .i64 (IntKind.wrap .i64 (n13 + n1))] <|
   T.ret (.int .u32 n10)))
theorem t_spandrelref10_reader__number_eq (p0 : Option Addr) (n1 : Int) : xfun Tryz.prog [] Tryz.f22 [.pointer p0, .int .i64 n1] = t_spandrelref10_reader__number p0 n1 := by kernel_rfl

/-- The tree of 23. -/
def t_spandrelref10_reader__refuse (p0 : Option Addr) (n1 : Int) (n2 : Int) : T :=
 T.osome p0 <| fun (a3 : Addr) =>
 T.loads ((a3.add 2).add 1) [.int .i64] <| fun (n4 : Int) =>
 cond (n4 == (0 : Int))
  (T.osome p0 <| fun (a5 : Addr) =>
  T.stores (a5.add 2) [.int .i64 n1, .int .i64 n2] <|
  T.ret (.tuple #[]))
  (T.ret (.tuple #[]))
theorem t_spandrelref10_reader__refuse_eq (p0 : Option Addr) (n1 : Int) (n2 : Int) : xfun Tryz.prog [] Tryz.f23 [.pointer p0, .int .i64 n1, .int .i64 n2] = t_spandrelref10_reader__refuse p0 n1 n2 := by kernel_rfl

/-- The tree of 24. -/
def t_spandrelref10_reader__text (p0 : Option Addr) : T :=
 T.osome p0 <| fun (a1 : Addr) =>
 T.loads ((a1.add 2).add 1) [.int .i64] <| fun (n2 : Int) =>
 cond (n2 != (0 : Int))
  (T.ret (.string ⟨#[]⟩))
  (T.osome p0 <| fun (a3 : Addr) =>
  T.loads a3 [.slice 5] <| fun (p4 : Option Addr) (l5 : Nat) (l6 : Nat) =>
  T.osome p0 <| fun (a7 : Addr) =>
  T.loads (a7.add 1) [.int .i64] <| fun (n8 : Int) =>
  T.call Tryz.prog 61 [.slice p4 l5 l6, .int .i64 n8, .int .i64 (65535 : Int)] true [(false, [.string]), (false, [.int .i64]), (false, [.int .i64])] <| fun (s9 : ByteArray) (n10 : Int) (n11 : Int) =>
  cond (n11 != (0 : Int))
   (T.osome p0 <| fun (a12 : Addr) =>
   T.loads a12 [.slice 5] <| fun (p13 : Option Addr) (l14 : Nat) (l15 : Nat) =>
   T.call Tryz.prog 23 [.pointer p0, .int .i64 (l14 : Int), .int .i64 (10 : Int)] true [] <| T.ret (.string ⟨#[]⟩))
   (T.osome p0 <| fun (a12 : Addr) =>
   T.stores (a12.add 1) [.int .i64 n10] <|
   T.ret (.string s9)))
theorem t_spandrelref10_reader__text_eq (p0 : Option Addr) : xfun Tryz.prog [] Tryz.f24 [.pointer p0] = t_spandrelref10_reader__text p0 := by kernel_rfl

/-- The tree of 25. -/
def t_spandrelref10_reader__lin (p0 : Option Addr) : T :=
 T.new [.slice none 0 0, .int .u32 (0 : Int)] 75 <| fun (a1 : Addr) =>
 T.new [.slice none 0 0, .int .u32 (0 : Int)] 75 <| fun (a2 : Addr) =>
 T.call Tryz.prog 22 [.pointer p0, .int .i64 (2 : Int)] false [(false, [.int .u32])] <| fun (n3 : Int) =>
 T.loop [(false, [.int .i64])] [.int .i64 (0 : Int)] <| fun (n4 : Int) =>
 cond (decide (n4 < (IntKind.wrap .i64 n3)))
  (T.osome p0 <| fun (a5 : Addr) =>
  T.loads ((a5.add 2).add 1) [.int .i64] <| fun (n6 : Int) =>
  cond (n6 == (0 : Int))
   (T.call Tryz.prog 24 [.pointer p0] false [(false, [.string])] <| fun (s7 : ByteArray) =>
   T.loads a2 [.slice 104] <| fun (p8 : Option Addr) (l9 : Nat) (l10 : Nat) =>
   T.call Tryz.prog 22 [.pointer p0, .int .i64 (4 : Int)] false [(false, [.int .u32])] <| fun (n11 : Int) =>
   T.stable [(a2, [.slice p8 l9 l10])] <|
   T.sem Tryz.prog (Instr.buildSlice 73 1 #[(0, .agg #[.string s7, .int .u32 n11])]) false [(false, [.slice 0])] <| fun (p12 : Option Addr) (l13 : Nat) (l14 : Nat) =>
   T.stable [(a2, [.slice p8 l9 l10])] <|
   T.sem Tryz.prog (Builtin.append_ #[73, 73] 73 #[.slice p8 l9 l10, .slice p12 l13 l14]) false [(false, [.slice 0])] <| fun (p15 : Option Addr) (l16 : Nat) (l17 : Nat) =>
   T.stores a2 [.slice p15 l16 l17] <|
   T.again 0 [.int .i64 (IntKind.wrap .i64 (n4 + (1 : Int)))])
   (T.call Tryz.prog 22 [.pointer p0, .int .i64 (4 : Int)] false [(false, [.int .u32])] <| fun (n7 : Int) =>
   T.stores (a2.add 1) [.int .u32 n7] <|
   T.loads a2 [.slice 104, .int .u32] <| fun (p8 : Option Addr) (l9 : Nat) (l10 : Nat) (n11 : Int) =>
   T.stores a1 [.slice p8 l9 l10, .int .u32 n11] <|
   T.loads a1 [.slice 104, .int .u32] <| fun (p12 : Option Addr) (l13 : Nat) (l14 : Nat) (n15 : Int) =>
   T.ret (.agg #[.slice p12 l13 l14, .int .u32 n15])))
  (T.call Tryz.prog 22 [.pointer p0, .int .i64 (4 : Int)] false [(false, [.int .u32])] <| fun (n5 : Int) =>
  T.stores (a2.add 1) [.int .u32 n5] <|
  T.loads a2 [.slice 104, .int .u32] <| fun (p6 : Option Addr) (l7 : Nat) (l8 : Nat) (n9 : Int) =>
  T.stores a1 [.slice p6 l7 l8, .int .u32 n9] <|
  T.loads a1 [.slice 104, .int .u32] <| fun (p10 : Option Addr) (l11 : Nat) (l12 : Nat) (n13 : Int) =>
  T.ret (.agg #[.slice p10 l11 l12, .int .u32 n13]))
theorem t_spandrelref10_reader__lin_eq (p0 : Option Addr) : xfun Tryz.prog [] Tryz.f25 [.pointer p0] = t_spandrelref10_reader__lin p0 := by kernel_rfl

/-- The tree of 26. -/
def t_spandrelref10_reader__grow (p0 : Option Addr) (n1 : Int) (pp20 : Option Addr) (ll20 cc20 : Nat) (pp21 : Option Addr) (ll21 cc21 : Nat) (pp22 : Option Addr) (ll22 cc22 : Nat) (pp23 : Option Addr) (ll23 cc23 : Nat) : T :=
 T.new [.slice pp20 ll20 cc20, .slice pp21 ll21 cc21, .slice pp22 ll22 cc22, .slice pp23 ll23 cc23] 28 <| fun (a3 : Addr) =>
 T.osome p0 <| fun (a4 : Addr) =>
 T.loads ((a4.add 2).add 1) [.int .i64] <| fun (n5 : Int) =>
 cond (n5 == (0 : Int))
  (T.loads a3 [.slice 102, .slice 102, .slice 78, .slice 9] <| fun (p6 : Option Addr) (l7 : Nat) (l8 : Nat) (p9 : Option Addr) (l10 : Nat) (l11 : Nat) (p12 : Option Addr) (l13 : Nat) (l14 : Nat) (p15 : Option Addr) (l16 : Nat) (l17 : Nat) =>
  T.call Tryz.prog 17 [.agg #[.slice p6 l7 l8, .slice p9 l10 l11, .slice p12 l13 l14, .slice p15 l16 l17]] false [(false, [.int .i64])] <| fun (n18 : Int) =>
  cond (n18 != (0 : Int))
   (T.call Tryz.prog 23 [.pointer p0, .int .i64 n1, .int .i64 (31 : Int)] true [] <| T.ret (.tuple #[]))
   (T.ret (.tuple #[])))
  (T.ret (.tuple #[]))
theorem t_spandrelref10_reader__grow_eq (p0 : Option Addr) (n1 : Int) (pp20 : Option Addr) (ll20 cc20 : Nat) (pp21 : Option Addr) (ll21 cc21 : Nat) (pp22 : Option Addr) (ll22 cc22 : Nat) (pp23 : Option Addr) (ll23 cc23 : Nat) : xfun Tryz.prog [] Tryz.f26 [.pointer p0, .int .i64 n1, .agg #[.slice pp20 ll20 cc20, .slice pp21 ll21 cc21, .slice pp22 ll22 cc22, .slice pp23 ll23 cc23]] = t_spandrelref10_reader__grow p0 n1 pp20 ll20 cc20 pp21 ll21 cc21 pp22 ll22 cc22 pp23 ll23 cc23 := by kernel_rfl

/-- The tree of 59. -/
def t_spandrelref10_reader__item (p0 : Option Addr) : T :=
 T.new [.int .i64 (0 : Int), .string ⟨#[]⟩, .int .i64 (0 : Int), .int .i64 (0 : Int), .int .i64 (0 : Int), .int .i32 (0 : Int), .int .i64 (0 : Int), .slice none 0 0, .int .u32 (0 : Int), .int .i64 (0 : Int)] 102 <| fun (a1 : Addr) =>
 T.osome p0 <| fun (a2 : Addr) =>
 T.loads (a2.add 1) [.int .i64] <| fun (n3 : Int) =>
 T.call Tryz.prog 22 [.pointer p0, .int .i64 (1 : Int)] false [(false, [.int .u32])] <| fun (n4 : Int) =>
 T.new [.int .i64 (0 : Int), .string ⟨#[]⟩, .int .i64 (0 : Int), .int .i64 (0 : Int), .int .i64 (0 : Int), .int .i32 (0 : Int), .int .i64 (0 : Int), .slice none 0 0, .int .u32 (0 : Int), .int .i64 (0 : Int)] 102 <| fun (a5 : Addr) =>
 T.stores a5 [.int .i64 (IntKind.wrap .i64 n4), .string ⟨#[]⟩, .int .i64 (0 : Int), .int .i64 (0 : Int), .int .i64 (0 : Int), .int .i32 (0 : Int), .int .i64 (0 : Int), .slice none 0 0, .int .u32 (0 : Int), .int .i64 (0 : Int)] <|
 T.loads a5 [.int .i64] <| fun (n6 : Int) =>
 cond (n6 == (1 : Int))
  (T.call Tryz.prog 24 [.pointer p0] false [(false, [.string])] <| fun (s7 : ByteArray) =>
  T.stores (a5.add 1) [.string s7] <|
  T.loads a5 [.int .i64, .string, .int .i64, .int .i64, .int .i64, .int .i32, .int .i64, .slice 104, .int .u32, .int .i64] <| fun (n8 : Int) (s9 : ByteArray) (n10 : Int) (n11 : Int) (n12 : Int) (n13 : Int) (n14 : Int) (p15 : Option Addr) (l16 : Nat) (l17 : Nat) (n18 : Int) (n19 : Int) =>
  T.stores a1 [.int .i64 n8, .string s9, .int .i64 n10, .int .i64 n11, .int .i64 n12, .int .i32 n13, .int .i64 n14, .slice p15 l16 l17, .int .u32 n18, .int .i64 n19] <|
  T.loads a1 [.int .i64, .string, .int .i64, .int .i64, .int .i64, .int .i32, .int .i64, .slice 104, .int .u32, .int .i64] <| fun (n20 : Int) (s21 : ByteArray) (n22 : Int) (n23 : Int) (n24 : Int) (n25 : Int) (n26 : Int) (p27 : Option Addr) (l28 : Nat) (l29 : Nat) (n30 : Int) (n31 : Int) =>
  T.ret (.agg #[.int .i64 n20, .string s21, .int .i64 n22, .int .i64 n23, .int .i64 n24, .int .i32 n25, .int .i64 n26, .slice p27 l28 l29, .int .u32 n30, .int .i64 n31]))
  (cond (n6 == (2 : Int))
   (T.call Tryz.prog 22 [.pointer p0, .int .i64 (1 : Int)] false [(false, [.int .u32])] <| fun (n7 : Int) =>
   T.stores (a5.add 2) [.int .i64 (IntKind.wrap .i64 n7)] <|
   T.call Tryz.prog 22 [.pointer p0, .int .i64 (1 : Int)] false [(false, [.int .u32])] <| fun (n8 : Int) =>
   T.stores ((a5.add 2).add 1) [.int .i64 (IntKind.wrap .i64 n8)] <|
   T.call Tryz.prog 22 [.pointer p0, .int .i64 (1 : Int)] false [(false, [.int .u32])] <| fun (n9 : Int) =>
   T.stores ((a5.add 2).add 2) [.int .i64 (IntKind.wrap .i64 n9)] <|
   T.call Tryz.prog 22 [.pointer p0, .int .i64 (4 : Int)] false [(false, [.int .u32])] <| fun (n10 : Int) =>
   T.stores ((a5.add 2).add 3) [.int .i32 (IntKind.wrap .i32 n10)] <|
   T.loads (a5.add 2) [.int .i64] <| fun (n11 : Int) =>
   T.call Tryz.prog 75 [.int .i64 n11] false [(false, [.bool])] <| fun (b12 : Bool) =>
   cond b12
    (T.call Tryz.prog 25 [.pointer p0] false [(true, [.slice 104, .int .u32])] <| fun (p13 : Option Addr) (l14 : Nat) (l15 : Nat) (n16 : Int) =>
    T.stores (a5.add 7) [.slice p13 l14 l15, .int .u32 n16] <|
    T.loads a5 [.int .i64, .string, .int .i64, .int .i64, .int .i64, .int .i32, .int .i64, .slice 104, .int .u32, .int .i64] <| fun (n17 : Int) (s18 : ByteArray) (n19 : Int) (n20 : Int) (n21 : Int) (n22 : Int) (n23 : Int) (p24 : Option Addr) (l25 : Nat) (l26 : Nat) (n27 : Int) (n28 : Int) =>
    T.stores a1 [.int .i64 n17, .string s18, .int .i64 n19, .int .i64 n20, .int .i64 n21, .int .i32 n22, .int .i64 n23, .slice p24 l25 l26, .int .u32 n27, .int .i64 n28] <|
    T.loads a1 [.int .i64, .string, .int .i64, .int .i64, .int .i64, .int .i32, .int .i64, .slice 104, .int .u32, .int .i64] <| fun (n29 : Int) (s30 : ByteArray) (n31 : Int) (n32 : Int) (n33 : Int) (n34 : Int) (n35 : Int) (p36 : Option Addr) (l37 : Nat) (l38 : Nat) (n39 : Int) (n40 : Int) =>
    T.ret (.agg #[.int .i64 n29, .string s30, .int .i64 n31, .int .i64 n32, .int .i64 n33, .int .i32 n34, .int .i64 n35, .slice p36 l37 l38, .int .u32 n39, .int .i64 n40]))
    (T.loads a5 [.int .i64, .string, .int .i64, .int .i64, .int .i64, .int .i32, .int .i64, .slice 104, .int .u32, .int .i64] <| fun (n13 : Int) (s14 : ByteArray) (n15 : Int) (n16 : Int) (n17 : Int) (n18 : Int) (n19 : Int) (p20 : Option Addr) (l21 : Nat) (l22 : Nat) (n23 : Int) (n24 : Int) =>
    T.stores a1 [.int .i64 n13, .string s14, .int .i64 n15, .int .i64 n16, .int .i64 n17, .int .i32 n18, .int .i64 n19, .slice p20 l21 l22, .int .u32 n23, .int .i64 n24] <|
    T.loads a1 [.int .i64, .string, .int .i64, .int .i64, .int .i64, .int .i32, .int .i64, .slice 104, .int .u32, .int .i64] <| fun (n25 : Int) (s26 : ByteArray) (n27 : Int) (n28 : Int) (n29 : Int) (n30 : Int) (n31 : Int) (p32 : Option Addr) (l33 : Nat) (l34 : Nat) (n35 : Int) (n36 : Int) =>
    T.ret (.agg #[.int .i64 n25, .string s26, .int .i64 n27, .int .i64 n28, .int .i64 n29, .int .i32 n30, .int .i64 n31, .slice p32 l33 l34, .int .u32 n35, .int .i64 n36])))
   (cond (n6 == (3 : Int))
    (T.call Tryz.prog 22 [.pointer p0, .int .i64 (2 : Int)] false [(false, [.int .u32])] <| fun (n7 : Int) =>
    T.stores (a5.add 9) [.int .i64 (IntKind.wrap .i64 n7)] <|
    T.loads a5 [.int .i64, .string, .int .i64, .int .i64, .int .i64, .int .i32, .int .i64, .slice 104, .int .u32, .int .i64] <| fun (n8 : Int) (s9 : ByteArray) (n10 : Int) (n11 : Int) (n12 : Int) (n13 : Int) (n14 : Int) (p15 : Option Addr) (l16 : Nat) (l17 : Nat) (n18 : Int) (n19 : Int) =>
    T.stores a1 [.int .i64 n8, .string s9, .int .i64 n10, .int .i64 n11, .int .i64 n12, .int .i32 n13, .int .i64 n14, .slice p15 l16 l17, .int .u32 n18, .int .i64 n19] <|
    T.loads a1 [.int .i64, .string, .int .i64, .int .i64, .int .i64, .int .i32, .int .i64, .slice 104, .int .u32, .int .i64] <| fun (n20 : Int) (s21 : ByteArray) (n22 : Int) (n23 : Int) (n24 : Int) (n25 : Int) (n26 : Int) (p27 : Option Addr) (l28 : Nat) (l29 : Nat) (n30 : Int) (n31 : Int) =>
    T.ret (.agg #[.int .i64 n20, .string s21, .int .i64 n22, .int .i64 n23, .int .i64 n24, .int .i32 n25, .int .i64 n26, .slice p27 l28 l29, .int .u32 n30, .int .i64 n31]))
    (cond (n6 == (5 : Int))
     (T.call Tryz.prog 22 [.pointer p0, .int .i64 (2 : Int)] false [(false, [.int .u32])] <| fun (n7 : Int) =>
     T.stores (a5.add 9) [.int .i64 (IntKind.wrap .i64 (IntKind.wrap .i16 n7))] <|
     T.loads a5 [.int .i64, .string, .int .i64, .int .i64, .int .i64, .int .i32, .int .i64, .slice 104, .int .u32, .int .i64] <| fun (n8 : Int) (s9 : ByteArray) (n10 : Int) (n11 : Int) (n12 : Int) (n13 : Int) (n14 : Int) (p15 : Option Addr) (l16 : Nat) (l17 : Nat) (n18 : Int) (n19 : Int) =>
     T.stores a1 [.int .i64 n8, .string s9, .int .i64 n10, .int .i64 n11, .int .i64 n12, .int .i32 n13, .int .i64 n14, .slice p15 l16 l17, .int .u32 n18, .int .i64 n19] <|
     T.loads a1 [.int .i64, .string, .int .i64, .int .i64, .int .i64, .int .i32, .int .i64, .slice 104, .int .u32, .int .i64] <| fun (n20 : Int) (s21 : ByteArray) (n22 : Int) (n23 : Int) (n24 : Int) (n25 : Int) (n26 : Int) (p27 : Option Addr) (l28 : Nat) (l29 : Nat) (n30 : Int) (n31 : Int) =>
     T.ret (.agg #[.int .i64 n20, .string s21, .int .i64 n22, .int .i64 n23, .int .i64 n24, .int .i32 n25, .int .i64 n26, .slice p27 l28 l29, .int .u32 n30, .int .i64 n31]))
     (cond (n6 == (6 : Int))
      (T.call Tryz.prog 25 [.pointer p0] false [(true, [.slice 104, .int .u32])] <| fun (p7 : Option Addr) (l8 : Nat) (l9 : Nat) (n10 : Int) =>
      T.stores (a5.add 7) [.slice p7 l8 l9, .int .u32 n10] <|
      T.loads a5 [.int .i64, .string, .int .i64, .int .i64, .int .i64, .int .i32, .int .i64, .slice 104, .int .u32, .int .i64] <| fun (n11 : Int) (s12 : ByteArray) (n13 : Int) (n14 : Int) (n15 : Int) (n16 : Int) (n17 : Int) (p18 : Option Addr) (l19 : Nat) (l20 : Nat) (n21 : Int) (n22 : Int) =>
      T.stores a1 [.int .i64 n11, .string s12, .int .i64 n13, .int .i64 n14, .int .i64 n15, .int .i32 n16, .int .i64 n17, .slice p18 l19 l20, .int .u32 n21, .int .i64 n22] <|
      T.loads a1 [.int .i64, .string, .int .i64, .int .i64, .int .i64, .int .i32, .int .i64, .slice 104, .int .u32, .int .i64] <| fun (n23 : Int) (s24 : ByteArray) (n25 : Int) (n26 : Int) (n27 : Int) (n28 : Int) (n29 : Int) (p30 : Option Addr) (l31 : Nat) (l32 : Nat) (n33 : Int) (n34 : Int) =>
      T.ret (.agg #[.int .i64 n23, .string s24, .int .i64 n25, .int .i64 n26, .int .i64 n27, .int .i32 n28, .int .i64 n29, .slice p30 l31 l32, .int .u32 n33, .int .i64 n34]))
      (cond (n6 == (7 : Int))
       (T.call Tryz.prog 22 [.pointer p0, .int .i64 (4 : Int)] false [(false, [.int .u32])] <| fun (n7 : Int) =>
       T.stores (a5.add 9) [.int .i64 (IntKind.wrap .i64 n7)] <|
       T.loads a5 [.int .i64, .string, .int .i64, .int .i64, .int .i64, .int .i32, .int .i64, .slice 104, .int .u32, .int .i64] <| fun (n8 : Int) (s9 : ByteArray) (n10 : Int) (n11 : Int) (n12 : Int) (n13 : Int) (n14 : Int) (p15 : Option Addr) (l16 : Nat) (l17 : Nat) (n18 : Int) (n19 : Int) =>
       T.stores a1 [.int .i64 n8, .string s9, .int .i64 n10, .int .i64 n11, .int .i64 n12, .int .i32 n13, .int .i64 n14, .slice p15 l16 l17, .int .u32 n18, .int .i64 n19] <|
       T.loads a1 [.int .i64, .string, .int .i64, .int .i64, .int .i64, .int .i32, .int .i64, .slice 104, .int .u32, .int .i64] <| fun (n20 : Int) (s21 : ByteArray) (n22 : Int) (n23 : Int) (n24 : Int) (n25 : Int) (n26 : Int) (p27 : Option Addr) (l28 : Nat) (l29 : Nat) (n30 : Int) (n31 : Int) =>
       T.ret (.agg #[.int .i64 n20, .string s21, .int .i64 n22, .int .i64 n23, .int .i64 n24, .int .i32 n25, .int .i64 n26, .slice p27 l28 l29, .int .u32 n30, .int .i64 n31]))
       (cond (n6 == (4 : Int))
        (T.loads a5 [.int .i64, .string, .int .i64, .int .i64, .int .i64, .int .i32, .int .i64, .slice 104, .int .u32, .int .i64] <| fun (n7 : Int) (s8 : ByteArray) (n9 : Int) (n10 : Int) (n11 : Int) (n12 : Int) (n13 : Int) (p14 : Option Addr) (l15 : Nat) (l16 : Nat) (n17 : Int) (n18 : Int) =>
        T.stores a1 [.int .i64 n7, .string s8, .int .i64 n9, .int .i64 n10, .int .i64 n11, .int .i32 n12, .int .i64 n13, .slice p14 l15 l16, .int .u32 n17, .int .i64 n18] <|
        T.loads a1 [.int .i64, .string, .int .i64, .int .i64, .int .i64, .int .i32, .int .i64, .slice 104, .int .u32, .int .i64] <| fun (n19 : Int) (s20 : ByteArray) (n21 : Int) (n22 : Int) (n23 : Int) (n24 : Int) (n25 : Int) (p26 : Option Addr) (l27 : Nat) (l28 : Nat) (n29 : Int) (n30 : Int) =>
        T.ret (.agg #[.int .i64 n19, .string s20, .int .i64 n21, .int .i64 n22, .int .i64 n23, .int .i32 n24, .int .i64 n25, .slice p26 l27 l28, .int .u32 n29, .int .i64 n30]))
        (T.call Tryz.prog 23 [.pointer p0, .int .i64 n3, .int .i64 (31 : Int)] true [] <| T.loads a5 [.int .i64, .string, .int .i64, .int .i64, .int .i64, .int .i32, .int .i64, .slice 104, .int .u32, .int .i64] <| fun (n7 : Int) (s8 : ByteArray) (n9 : Int) (n10 : Int) (n11 : Int) (n12 : Int) (n13 : Int) (p14 : Option Addr) (l15 : Nat) (l16 : Nat) (n17 : Int) (n18 : Int) =>
        T.stores a1 [.int .i64 n7, .string s8, .int .i64 n9, .int .i64 n10, .int .i64 n11, .int .i32 n12, .int .i64 n13, .slice p14 l15 l16, .int .u32 n17, .int .i64 n18] <|
        T.loads a1 [.int .i64, .string, .int .i64, .int .i64, .int .i64, .int .i32, .int .i64, .slice 104, .int .u32, .int .i64] <| fun (n19 : Int) (s20 : ByteArray) (n21 : Int) (n22 : Int) (n23 : Int) (n24 : Int) (n25 : Int) (p26 : Option Addr) (l27 : Nat) (l28 : Nat) (n29 : Int) (n30 : Int) =>
        T.ret (.agg #[.int .i64 n19, .string s20, .int .i64 n21, .int .i64 n22, .int .i64 n23, .int .i32 n24, .int .i64 n25, .slice p26 l27 l28, .int .u32 n29, .int .i64 n30]))))))))
theorem t_spandrelref10_reader__item_eq (p0 : Option Addr) : xfun Tryz.prog [] Tryz.f59 [.pointer p0] = t_spandrelref10_reader__item p0 := by kernel_rfl

/-- The tree of 60. -/
def t_spandrelref1_Get (pp00 : Option Addr) (ll00 cc00 : Nat) (n1 : Int) (n2 : Int) : T :=
 cond (n2 != (1 : Int))
  (cond (n2 != (2 : Int))
   (cond (n2 != (4 : Int))
    (T.ret (.tuple #[.int .u32 (0 : Int), .int .i64 (1 : Int)]))
    (cond (decide (n1 < (0 : Int)))
     (T.ret (.tuple #[.int .u32 (0 : Int), .int .i64 (1 : Int)]))
     (cond (decide (n1 > (ll00 : Int)))
      (T.ret (.tuple #[.int .u32 (0 : Int), .int .i64 (1 : Int)]))
      (cond (decide ((IntKind.wrap .i64 ((ll00 : Int) - n1)) < n2))
       (T.ret (.tuple #[.int .u32 (0 : Int), .int .i64 (10 : Int)]))
       (T.loop [(false, [.int .u32]), (false, [.int .i64])] [.int .u32 (0 : Int), .int .i64 (IntKind.wrap .i64 (n2 - (1 : Int)))] <| fun (n3 : Int) (n4 : Int) =>
       cond (decide (n4 ≥ (0 : Int)))
        (T.need (((0 : Int) ≤ (IntKind.wrap .i64 (n1 + n4))) ∧ ((IntKind.wrap .i64 (n1 + n4)) < (ll00 : Int))) <|
        T.osome pp00 <| fun (a5 : Addr) =>
        T.loads (a5.add ((Int.toNat (IntKind.wrap .i64 (n1 + n4))) * 1)) [.int .u8] <| fun (n6 : Int) =>
        T.again 0 [.int .u32 (IntKind.wrap .u32 ((IntKind.wrap .u32 (n3 * (256 : Int))) + (IntKind.wrap .u32 n6))), .int .i64 (IntKind.wrap .i64 (n4 - (1 : Int)))])
        (T.ret (.tuple #[.int .u32 n3, .int .i64 (0 : Int)])))))))
   (cond (decide (n1 < (0 : Int)))
    (T.ret (.tuple #[.int .u32 (0 : Int), .int .i64 (1 : Int)]))
    (cond (decide (n1 > (ll00 : Int)))
     (T.ret (.tuple #[.int .u32 (0 : Int), .int .i64 (1 : Int)]))
     (cond (decide ((IntKind.wrap .i64 ((ll00 : Int) - n1)) < n2))
      (T.ret (.tuple #[.int .u32 (0 : Int), .int .i64 (10 : Int)]))
      (T.loop [(false, [.int .u32]), (false, [.int .i64])] [.int .u32 (0 : Int), .int .i64 (IntKind.wrap .i64 (n2 - (1 : Int)))] <| fun (n3 : Int) (n4 : Int) =>
      cond (decide (n4 ≥ (0 : Int)))
       (T.need (((0 : Int) ≤ (IntKind.wrap .i64 (n1 + n4))) ∧ ((IntKind.wrap .i64 (n1 + n4)) < (ll00 : Int))) <|
       T.osome pp00 <| fun (a5 : Addr) =>
       T.loads (a5.add ((Int.toNat (IntKind.wrap .i64 (n1 + n4))) * 1)) [.int .u8] <| fun (n6 : Int) =>
       T.again 0 [.int .u32 (IntKind.wrap .u32 ((IntKind.wrap .u32 (n3 * (256 : Int))) + (IntKind.wrap .u32 n6))), .int .i64 (IntKind.wrap .i64 (n4 - (1 : Int)))])
       (T.ret (.tuple #[.int .u32 n3, .int .i64 (0 : Int)])))))))
  (cond (decide (n1 < (0 : Int)))
   (T.ret (.tuple #[.int .u32 (0 : Int), .int .i64 (1 : Int)]))
   (cond (decide (n1 > (ll00 : Int)))
    (T.ret (.tuple #[.int .u32 (0 : Int), .int .i64 (1 : Int)]))
    (cond (decide ((IntKind.wrap .i64 ((ll00 : Int) - n1)) < n2))
     (T.ret (.tuple #[.int .u32 (0 : Int), .int .i64 (10 : Int)]))
     (T.loop [(false, [.int .u32]), (false, [.int .i64])] [.int .u32 (0 : Int), .int .i64 (IntKind.wrap .i64 (n2 - (1 : Int)))] <| fun (n3 : Int) (n4 : Int) =>
     cond (decide (n4 ≥ (0 : Int)))
      (T.need (((0 : Int) ≤ (IntKind.wrap .i64 (n1 + n4))) ∧ ((IntKind.wrap .i64 (n1 + n4)) < (ll00 : Int))) <|
      T.osome pp00 <| fun (a5 : Addr) =>
      T.loads (a5.add ((Int.toNat (IntKind.wrap .i64 (n1 + n4))) * 1)) [.int .u8] <| fun (n6 : Int) =>
      T.again 0 [.int .u32 (IntKind.wrap .u32 ((IntKind.wrap .u32 (n3 * (256 : Int))) + (IntKind.wrap .u32 n6))), .int .i64 (IntKind.wrap .i64 (n4 - (1 : Int)))])
      (T.ret (.tuple #[.int .u32 n3, .int .i64 (0 : Int)]))))))
theorem t_spandrelref1_Get_eq (pp00 : Option Addr) (ll00 cc00 : Nat) (n1 : Int) (n2 : Int) : xfun Tryz.prog [] Tryz.f60 [.slice pp00 ll00 cc00, .int .i64 n1, .int .i64 n2] = t_spandrelref1_Get pp00 ll00 cc00 n1 n2 := by kernel_rfl

/-- The tree of 61. -/
def t_spandrelref1_GetText (pp00 : Option Addr) (ll00 cc00 : Nat) (n1 : Int) (n2 : Int) : T :=
 T.call Tryz.prog 60 [.slice pp00 ll00 cc00, .int .i64 n1, .int .i64 (2 : Int)] true [(false, [.int .u32]), (false, [.int .i64])] <| fun (n3 : Int) (n4 : Int) =>
 cond (n4 != (0 : Int))
  (T.ret (.tuple #[.string ⟨#[]⟩, .int .i64 (0 : Int), .int .i64 n4]))
  (cond (decide ((IntKind.wrap .i64 n3) > n2))
   (T.ret (.tuple #[.string ⟨#[]⟩, .int .i64 (0 : Int), .int .i64 (3 : Int)]))
   (cond (decide ((IntKind.wrap .i64 ((IntKind.wrap .i64 ((ll00 : Int) - n1)) - (2 : Int))) < (IntKind.wrap .i64 n3)))
    (T.ret (.tuple #[.string ⟨#[]⟩, .int .i64 (0 : Int), .int .i64 (10 : Int)]))
    (T.need (((0 : Int) ≤ (IntKind.wrap .i64 (n1 + (2 : Int)))) ∧ (((IntKind.wrap .i64 (n1 + (2 : Int))) ≤ (IntKind.wrap .i64 ((IntKind.wrap .i64 (n1 + (2 : Int))) + (IntKind.wrap .i64 n3)))) ∧ ((IntKind.wrap .i64 ((IntKind.wrap .i64 (n1 + (2 : Int))) + (IntKind.wrap .i64 n3))) ≤ (cc00 : Int)))) <|
    T.sem Tryz.prog (convert 22 9 (.slice (if (cc00 = (Int.toNat (IntKind.wrap .i64 (n1 + (2 : Int))))) then pp00 else (Option.map (fun a => Addr.add a ((Int.toNat (IntKind.wrap .i64 (n1 + (2 : Int)))) * 1)) pp00)) ((Int.toNat (IntKind.wrap .i64 ((IntKind.wrap .i64 (n1 + (2 : Int))) + (IntKind.wrap .i64 n3)))) - (Int.toNat (IntKind.wrap .i64 (n1 + (2 : Int))))) (cc00 - (Int.toNat (IntKind.wrap .i64 (n1 + (2 : Int))))))) false [(false, [.string])] <| fun (s5 : ByteArray) =>
    T.ret (.tuple #[.string s5, .int .i64 (IntKind.wrap .i64 ((IntKind.wrap .i64 (n1 + (2 : Int))) + (IntKind.wrap .i64 n3))), .int .i64 (0 : Int)]))))
theorem t_spandrelref1_GetText_eq (pp00 : Option Addr) (ll00 cc00 : Nat) (n1 : Int) (n2 : Int) : xfun Tryz.prog [] Tryz.f61 [.slice pp00 ll00 cc00, .int .i64 n1, .int .i64 n2] = t_spandrelref1_GetText pp00 ll00 cc00 n1 n2 := by kernel_rfl

/-- The tree of 5. -/
def t_spandrelbook_Roomy_byte_ (pp00 : Option Addr) (ll00 cc00 : Nat) (n1 : Int) : T :=
 T.sem Tryz.prog (Instr.makeSlice 22 (.int .i64 (IntKind.wrap .i64 ((ll00 : Int) + (80 : Int)))) (.int .i64 (IntKind.wrap .i64 ((ll00 : Int) + (80 : Int))))) false [(false, [.slice 0])] <| fun (p2 : Option Addr) (l3 : Nat) (l4 : Nat) =>
 T.sem Tryz.prog (Builtin.copy_ #[22, 22] 3 #[.slice p2 l3 l4, .slice pp00 ll00 cc00]) false [(false, [.int .i64])] <| fun (n5 : Int) =>
 T.loop [(false, [.int .i64])] [.int .i64 (ll00 : Int)] <| fun (n6 : Int) =>
 cond (decide (n6 < (l3 : Int)))
  (T.need (((0 : Int) ≤ n6) ∧ (n6 < (l3 : Int))) <|
  T.osome p2 <| fun (a7 : Addr) =>
  T.stores (a7.add ((Int.toNat n6) * 1)) [.int .u8 n1] <|
  T.again 0 [.int .i64 (IntKind.wrap .i64 (n6 + (1 : Int)))])
  (T.ret (.slice p2 l3 l4))
theorem t_spandrelbook_Roomy_byte__eq (pp00 : Option Addr) (ll00 cc00 : Nat) (n1 : Int) : xfun Tryz.prog [] Tryz.f5 [.slice pp00 ll00 cc00, .int .u8 n1] = t_spandrelbook_Roomy_byte_ pp00 ll00 cc00 n1 := by kernel_rfl

/-- The tree of 10. -/
def t_spandrelbook_Intact_byte_ (pp00 : Option Addr) (ll00 cc00 : Nat) (pp10 : Option Addr) (ll10 cc10 : Nat) (n2 : Int) : T :=
 cond ((ll00 : Int) != (IntKind.wrap .i64 ((ll10 : Int) + (80 : Int))))
  (T.ret (.bool false))
  (T.need (((0 : Int) ≤ (0 : Int)) ∧ (((0 : Int) ≤ (ll10 : Int)) ∧ ((ll10 : Int) ≤ (cc00 : Int)))) <|
  T.call Tryz.prog 34 [.slice (if (cc00 = 0) then pp00 else (Option.map (fun a => Addr.add a 0) pp00)) ((Int.toNat (ll10 : Int)) - 0) (cc00 - 0), .slice pp10 ll10 cc10] false [(false, [.bool])] <| fun (b3 : Bool) =>
  cond (!b3)
   (T.ret (.bool false))
   (T.loop [(false, [.bool]), (false, [.int .i64])] [.bool false, .int .i64 (ll10 : Int)] <| fun (b4 : Bool) (n5 : Int) =>
   cond (decide (n5 < (ll00 : Int)))
    (T.need (((0 : Int) ≤ n5) ∧ (n5 < (ll00 : Int))) <|
    T.osome pp00 <| fun (a6 : Addr) =>
    T.loads (a6.add ((Int.toNat n5) * 1)) [.int .u8] <| fun (n7 : Int) =>
    cond (n7 != n2)
     (T.ret (.bool false))
     (T.again 0 [.bool b4, .int .i64 (IntKind.wrap .i64 (n5 + (1 : Int)))]))
    (T.ret (.bool true))))
theorem t_spandrelbook_Intact_byte__eq (pp00 : Option Addr) (ll00 cc00 : Nat) (pp10 : Option Addr) (ll10 cc10 : Nat) (n2 : Int) : xfun Tryz.prog [] Tryz.f10 [.slice pp00 ll00 cc00, .slice pp10 ll10 cc10, .int .u8 n2] = t_spandrelbook_Intact_byte_ pp00 ll00 cc00 pp10 ll10 cc10 n2 := by kernel_rfl

/-- The tree of 3. -/
def t_spandrellaw10_ObjectReads (pp00 : Option Addr) (ll00 cc00 : Nat) : T :=
 cond (decide ((ll00 : Int) ≤ (1048576 : Int)))
  (cond (decide ((ll00 : Int) > (3000 : Int)))
   (T.need (((0 : Int) ≤ (0 : Int)) ∧ (((0 : Int) ≤ (3000 : Int)) ∧ ((3000 : Int) ≤ (cc00 : Int)))) <|
   T.call Tryz.prog 5 [.slice (if (cc00 = 0) then pp00 else (Option.map (fun a => Addr.add a 0) pp00)) ((Int.toNat (3000 : Int)) - 0) (cc00 - 0), .int .u8 (165 : Int)] false [(false, [.slice 5])] <| fun (p1 : Option Addr) (l2 : Nat) (l3 : Nat) =>
   T.need (((0 : Int) ≤ (0 : Int)) ∧ (((0 : Int) ≤ ((((Int.toNat (3000 : Int)) - 0) : Nat) : Int)) ∧ (((((Int.toNat (3000 : Int)) - 0) : Nat) : Int) ≤ (l3 : Int)))) <|
   T.call Tryz.prog 6 [.slice (if (l3 = 0) then p1 else (Option.map (fun a => Addr.add a 0) p1)) ((Int.toNat ((((Int.toNat (3000 : Int)) - 0) : Nat) : Int)) - 0) (l3 - 0)] true [(true, [.slice 102, .slice 102, .slice 78, .slice 9]), (false, [.interface #[("Error", 72)]])] <| fun (p4 : Option Addr) (l5 : Nat) (l6 : Nat) (p7 : Option Addr) (l8 : Nat) (l9 : Nat) (p10 : Option Addr) (l11 : Nat) (l12 : Nat) (p13 : Option Addr) (l14 : Nat) (l15 : Nat) (v16 : Value) =>
   T.new [.slice none 0 0, .slice none 0 0, .slice none 0 0, .slice none 0 0] 28 <| fun (a17 : Addr) =>
   T.stores a17 [.slice p4 l5 l6, .slice p7 l8 l9, .slice p10 l11 l12, .slice p13 l14 l15] <|
   T.call Tryz.prog 7 [.slice (if (cc00 = 0) then pp00 else (Option.map (fun a => Addr.add a 0) pp00)) ((Int.toNat (3000 : Int)) - 0) (cc00 - 0)] true [(true, [.slice 102, .slice 102, .slice 78, .slice 9]), (true, [.int .i64, .int .i64])] <| fun (p18 : Option Addr) (l19 : Nat) (l20 : Nat) (p21 : Option Addr) (l22 : Nat) (l23 : Nat) (p24 : Option Addr) (l25 : Nat) (l26 : Nat) (p27 : Option Addr) (l28 : Nat) (l29 : Nat) (n30 : Int) (n31 : Int) =>
   T.new [.slice none 0 0, .slice none 0 0, .slice none 0 0, .slice none 0 0] 28 <| fun (a32 : Addr) =>
   T.new [.int .i64 (0 : Int), .int .i64 (0 : Int)] 34 <| fun (a33 : Addr) =>
   T.stores a32 [.slice p18 l19 l20, .slice p21 l22 l23, .slice p24 l25 l26, .slice p27 l28 l29] <|
   T.stores a33 [.int .i64 n30, .int .i64 n31] <|
   T.loads a33 [.int .i64, .int .i64] <| fun (n34 : Int) (n35 : Int) =>
   T.call Tryz.prog 8 [v16, .agg #[.int .i64 n34, .int .i64 n35]] false [(false, [.bool])] <| fun (b36 : Bool) =>
   cond b36
    (T.loads a17 [.slice 102, .slice 102, .slice 78, .slice 9] <| fun (p37 : Option Addr) (l38 : Nat) (l39 : Nat) (p40 : Option Addr) (l41 : Nat) (l42 : Nat) (p43 : Option Addr) (l44 : Nat) (l45 : Nat) (p46 : Option Addr) (l47 : Nat) (l48 : Nat) =>
    T.loads a32 [.slice 102, .slice 102, .slice 78, .slice 9] <| fun (p49 : Option Addr) (l50 : Nat) (l51 : Nat) (p52 : Option Addr) (l53 : Nat) (l54 : Nat) (p55 : Option Addr) (l56 : Nat) (l57 : Nat) (p58 : Option Addr) (l59 : Nat) (l60 : Nat) =>
    T.call Tryz.prog 9 [.agg #[.slice p37 l38 l39, .slice p40 l41 l42, .slice p43 l44 l45, .slice p46 l47 l48], .agg #[.slice p49 l50 l51, .slice p52 l53 l54, .slice p55 l56 l57, .slice p58 l59 l60]] false [(false, [.bool])] <| fun (b61 : Bool) =>
    cond b61
     (T.call Tryz.prog 10 [.slice p1 l2 l3, .slice (if (cc00 = 0) then pp00 else (Option.map (fun a => Addr.add a 0) pp00)) ((Int.toNat (3000 : Int)) - 0) (cc00 - 0), .int .u8 (165 : Int)] false [(false, [.bool])] <| fun (b62 : Bool) =>
     cond b62
      (T.call Tryz.prog 11 [] false [(false, [.bool])] <| fun (b63 : Bool) =>
      T.ret (.bool b63))
      (T.ret (.bool false)))
     (T.ret (.bool false)))
    (T.ret (.bool false)))
   (T.call Tryz.prog 5 [.slice pp00 ll00 cc00, .int .u8 (165 : Int)] false [(false, [.slice 5])] <| fun (p1 : Option Addr) (l2 : Nat) (l3 : Nat) =>
   T.need (((0 : Int) ≤ (0 : Int)) ∧ (((0 : Int) ≤ (ll00 : Int)) ∧ ((ll00 : Int) ≤ (l3 : Int)))) <|
   T.call Tryz.prog 6 [.slice (if (l3 = 0) then p1 else (Option.map (fun a => Addr.add a 0) p1)) ((Int.toNat (ll00 : Int)) - 0) (l3 - 0)] true [(true, [.slice 102, .slice 102, .slice 78, .slice 9]), (false, [.interface #[("Error", 72)]])] <| fun (p4 : Option Addr) (l5 : Nat) (l6 : Nat) (p7 : Option Addr) (l8 : Nat) (l9 : Nat) (p10 : Option Addr) (l11 : Nat) (l12 : Nat) (p13 : Option Addr) (l14 : Nat) (l15 : Nat) (v16 : Value) =>
   T.new [.slice none 0 0, .slice none 0 0, .slice none 0 0, .slice none 0 0] 28 <| fun (a17 : Addr) =>
   T.stores a17 [.slice p4 l5 l6, .slice p7 l8 l9, .slice p10 l11 l12, .slice p13 l14 l15] <|
   T.call Tryz.prog 7 [.slice pp00 ll00 cc00] true [(true, [.slice 102, .slice 102, .slice 78, .slice 9]), (true, [.int .i64, .int .i64])] <| fun (p18 : Option Addr) (l19 : Nat) (l20 : Nat) (p21 : Option Addr) (l22 : Nat) (l23 : Nat) (p24 : Option Addr) (l25 : Nat) (l26 : Nat) (p27 : Option Addr) (l28 : Nat) (l29 : Nat) (n30 : Int) (n31 : Int) =>
   T.new [.slice none 0 0, .slice none 0 0, .slice none 0 0, .slice none 0 0] 28 <| fun (a32 : Addr) =>
   T.new [.int .i64 (0 : Int), .int .i64 (0 : Int)] 34 <| fun (a33 : Addr) =>
   T.stores a32 [.slice p18 l19 l20, .slice p21 l22 l23, .slice p24 l25 l26, .slice p27 l28 l29] <|
   T.stores a33 [.int .i64 n30, .int .i64 n31] <|
   T.loads a33 [.int .i64, .int .i64] <| fun (n34 : Int) (n35 : Int) =>
   T.call Tryz.prog 8 [v16, .agg #[.int .i64 n34, .int .i64 n35]] false [(false, [.bool])] <| fun (b36 : Bool) =>
   cond b36
    (T.loads a17 [.slice 102, .slice 102, .slice 78, .slice 9] <| fun (p37 : Option Addr) (l38 : Nat) (l39 : Nat) (p40 : Option Addr) (l41 : Nat) (l42 : Nat) (p43 : Option Addr) (l44 : Nat) (l45 : Nat) (p46 : Option Addr) (l47 : Nat) (l48 : Nat) =>
    T.loads a32 [.slice 102, .slice 102, .slice 78, .slice 9] <| fun (p49 : Option Addr) (l50 : Nat) (l51 : Nat) (p52 : Option Addr) (l53 : Nat) (l54 : Nat) (p55 : Option Addr) (l56 : Nat) (l57 : Nat) (p58 : Option Addr) (l59 : Nat) (l60 : Nat) =>
    T.call Tryz.prog 9 [.agg #[.slice p37 l38 l39, .slice p40 l41 l42, .slice p43 l44 l45, .slice p46 l47 l48], .agg #[.slice p49 l50 l51, .slice p52 l53 l54, .slice p55 l56 l57, .slice p58 l59 l60]] false [(false, [.bool])] <| fun (b61 : Bool) =>
    cond b61
     (T.call Tryz.prog 10 [.slice p1 l2 l3, .slice pp00 ll00 cc00, .int .u8 (165 : Int)] false [(false, [.bool])] <| fun (b62 : Bool) =>
     cond b62
      (T.call Tryz.prog 11 [] false [(false, [.bool])] <| fun (b63 : Bool) =>
      T.ret (.bool b63))
      (T.ret (.bool false)))
     (T.ret (.bool false)))
    (T.ret (.bool false))))
  (T.call Tryz.prog 5 [.slice pp00 ll00 cc00, .int .u8 (165 : Int)] false [(false, [.slice 5])] <| fun (p1 : Option Addr) (l2 : Nat) (l3 : Nat) =>
  T.need (((0 : Int) ≤ (0 : Int)) ∧ (((0 : Int) ≤ (ll00 : Int)) ∧ ((ll00 : Int) ≤ (l3 : Int)))) <|
  T.call Tryz.prog 6 [.slice (if (l3 = 0) then p1 else (Option.map (fun a => Addr.add a 0) p1)) ((Int.toNat (ll00 : Int)) - 0) (l3 - 0)] true [(true, [.slice 102, .slice 102, .slice 78, .slice 9]), (false, [.interface #[("Error", 72)]])] <| fun (p4 : Option Addr) (l5 : Nat) (l6 : Nat) (p7 : Option Addr) (l8 : Nat) (l9 : Nat) (p10 : Option Addr) (l11 : Nat) (l12 : Nat) (p13 : Option Addr) (l14 : Nat) (l15 : Nat) (v16 : Value) =>
  T.new [.slice none 0 0, .slice none 0 0, .slice none 0 0, .slice none 0 0] 28 <| fun (a17 : Addr) =>
  T.stores a17 [.slice p4 l5 l6, .slice p7 l8 l9, .slice p10 l11 l12, .slice p13 l14 l15] <|
  T.call Tryz.prog 7 [.slice pp00 ll00 cc00] true [(true, [.slice 102, .slice 102, .slice 78, .slice 9]), (true, [.int .i64, .int .i64])] <| fun (p18 : Option Addr) (l19 : Nat) (l20 : Nat) (p21 : Option Addr) (l22 : Nat) (l23 : Nat) (p24 : Option Addr) (l25 : Nat) (l26 : Nat) (p27 : Option Addr) (l28 : Nat) (l29 : Nat) (n30 : Int) (n31 : Int) =>
  T.new [.slice none 0 0, .slice none 0 0, .slice none 0 0, .slice none 0 0] 28 <| fun (a32 : Addr) =>
  T.new [.int .i64 (0 : Int), .int .i64 (0 : Int)] 34 <| fun (a33 : Addr) =>
  T.stores a32 [.slice p18 l19 l20, .slice p21 l22 l23, .slice p24 l25 l26, .slice p27 l28 l29] <|
  T.stores a33 [.int .i64 n30, .int .i64 n31] <|
  T.loads a33 [.int .i64, .int .i64] <| fun (n34 : Int) (n35 : Int) =>
  T.call Tryz.prog 8 [v16, .agg #[.int .i64 n34, .int .i64 n35]] false [(false, [.bool])] <| fun (b36 : Bool) =>
  cond b36
   (T.loads a17 [.slice 102, .slice 102, .slice 78, .slice 9] <| fun (p37 : Option Addr) (l38 : Nat) (l39 : Nat) (p40 : Option Addr) (l41 : Nat) (l42 : Nat) (p43 : Option Addr) (l44 : Nat) (l45 : Nat) (p46 : Option Addr) (l47 : Nat) (l48 : Nat) =>
   T.loads a32 [.slice 102, .slice 102, .slice 78, .slice 9] <| fun (p49 : Option Addr) (l50 : Nat) (l51 : Nat) (p52 : Option Addr) (l53 : Nat) (l54 : Nat) (p55 : Option Addr) (l56 : Nat) (l57 : Nat) (p58 : Option Addr) (l59 : Nat) (l60 : Nat) =>
   T.call Tryz.prog 9 [.agg #[.slice p37 l38 l39, .slice p40 l41 l42, .slice p43 l44 l45, .slice p46 l47 l48], .agg #[.slice p49 l50 l51, .slice p52 l53 l54, .slice p55 l56 l57, .slice p58 l59 l60]] false [(false, [.bool])] <| fun (b61 : Bool) =>
   cond b61
    (T.call Tryz.prog 10 [.slice p1 l2 l3, .slice pp00 ll00 cc00, .int .u8 (165 : Int)] false [(false, [.bool])] <| fun (b62 : Bool) =>
    cond b62
     (T.call Tryz.prog 11 [] false [(false, [.bool])] <| fun (b63 : Bool) =>
     T.ret (.bool b63))
     (T.ret (.bool false)))
    (T.ret (.bool false)))
   (T.ret (.bool false)))
theorem t_spandrellaw10_ObjectReads_eq (pp00 : Option Addr) (ll00 cc00 : Nat) : xfun Tryz.prog [] Tryz.f3 [.slice pp00 ll00 cc00] = t_spandrellaw10_ObjectReads pp00 ll00 cc00 := by kernel_rfl

end Go.Sx
