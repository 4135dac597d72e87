/- Trees of functions, each checked by the kernel against the code. No condition. -/
import Derived.Test.YtnjohginlglonaaGreatDoorSxF
import Derived.Test.YtnjohginlglonaaGreatDoorProg
import Derived.KernelRfl
set_option linter.unusedVariables false
set_option linter.unusedSimpArgs false
set_option linter.deprecated false
set_option maxRecDepth 100000
namespace Go.Sx
open Go.Proofs
/-- The tree of 16. -/
def t_object_writer__number (p0 : Option Addr) (n1 : Int) (n2 : Int) : T :=
 T.loop [(false, [.int .u32]), (false, [.int .i64])] [.int .u32 n1, .int .i64 (0 : Int)] <| fun (n3 : Int) (n4 : Int) =>
 cond (decide (n4 < n2))
  (T.osome p0 <| fun (a5 : Addr) =>
  T.loads a5 [.slice 5] <| fun (p6 : Option Addr) (l7 : Nat) (l8 : Nat) =>
  T.sem Tryz.prog (Instr.buildSlice 22 1 #[(0, .int .u8 (IntKind.wrap .u8 n3))]) false [(false, [.slice 0])] <| fun (p9 : Option Addr) (l10 : Nat) (l11 : Nat) =>
  T.sem Tryz.prog (Builtin.append_ #[22, 22] 22 #[.slice p6 l7 l8, .slice p9 l10 l11]) false [(false, [.slice 0])] <| fun (p12 : Option Addr) (l13 : Nat) (l14 : Nat) =>
  T.osome p0 <| fun (a15 : Addr) =>
  T.stores a15 [.slice p12 l13 l14] <|
  T.need ((0 : Int) ≤ (8 : Int)) <|
  T.again 0 [.int .u32 (Int.fdiv n3 (256 : Int)), .int .i64 (IntKind.wrap .i64 (n4 + (1 : Int)))])
  (T.ret (.tuple #[]))
theorem t_object_writer__number_eq (p0 : Option Addr) (n1 : Int) (n2 : Int) : xfun Tryz.prog [] Tryz.f39 [.pointer p0, .int .u32 n1, .int .i64 n2] = t_object_writer__number p0 n1 n2 := by kernel_rfl

/-- The tree of 17. -/
def t_object_writer__text (p0 : Option Addr) (s1 : ByteArray) : T :=
 T.call Tryz.prog 39 [.pointer p0, .int .u32 (IntKind.wrap .u32 (s1.size : Int)), .int .i64 (2 : Int)] true [] <| T.osome p0 <| fun (a2 : Addr) =>
 T.loads a2 [.slice 5] <| fun (p3 : Option Addr) (l4 : Nat) (l5 : Nat) =>
 T.sem Tryz.prog (Builtin.append_ #[22, 9] 22 #[.slice p3 l4 l5, .string s1]) false [(false, [.slice 0])] <| fun (p6 : Option Addr) (l7 : Nat) (l8 : Nat) =>
 T.osome p0 <| fun (a9 : Addr) =>
 T.stores a9 [.slice p6 l7 l8] <|
 T.ret (.tuple #[])
theorem t_object_writer__text_eq (p0 : Option Addr) (s1 : ByteArray) : xfun Tryz.prog [] Tryz.f40 [.pointer p0, .string s1] = t_object_writer__text p0 s1 := by kernel_rfl

/-- The tree of 18. -/
def t_object_writer__lin (p0 : Option Addr) (pp10 : Option Addr) (ll10 cc10 : Nat) (n1_1 : Int) : T :=
 T.new [.slice pp10 ll10 cc10, .int .u32 n1_1] 75 <| fun (a2 : Addr) =>
 T.osome p0 <| fun (a3 : Addr) =>
 T.loads (a3.add 1) [.bool] <| fun (b4 : Bool) =>
 cond b4
  (T.osome p0 <| fun (a5 : Addr) =>
  T.stores (a5.add 1) [.bool true] <|
  T.loads a2 [.slice 104] <| fun (p6 : Option Addr) (l7 : Nat) (l8 : Nat) =>
  T.call Tryz.prog 39 [.pointer p0, .int .u32 (IntKind.wrap .u32 (l7 : Int)), .int .i64 (2 : Int)] true [] <| T.loads a2 [.slice 104] <| fun (p9 : Option Addr) (l10 : Nat) (l11 : Nat) =>
  T.loop [(false, [.int .i64])] [.int .i64 (0 : Int)] <| fun (n12 : Int) =>
  cond (decide (n12 < (l10 : Int)))
   (T.need (((0 : Int) ≤ n12) ∧ (n12 < (l10 : Int))) <|
   T.osome p9 <| fun (a13 : Addr) =>
   T.loads (a13.add ((Int.toNat n12) * 2)) [.string, .int .u32] <| fun (s14 : ByteArray) (n15 : Int) =>
   T.new [.string ⟨#[]⟩, .int .u32 (0 : Int)] 104 <| fun (a16 : Addr) =>
   T.stores a16 [.string s14, .int .u32 n15] <|
   T.loads a16 [.string] <| fun (s17 : ByteArray) =>
   T.call Tryz.prog 40 [.pointer p0, .string s17] true [] <| T.loads (a16.add 1) [.int .u32] <| fun (n18 : Int) =>
   T.call Tryz.prog 39 [.pointer p0, .int .u32 n18, .int .i64 (4 : Int)] true [] <| T.again 0 [.int .i64 (IntKind.wrap .i64 (n12 + (1 : Int)))])
   (T.loads (a2.add 1) [.int .u32] <| fun (n13 : Int) =>
   T.call Tryz.prog 39 [.pointer p0, .int .u32 n13, .int .i64 (4 : Int)] true [] <| T.ret (.tuple #[])))
  (T.loads a2 [.slice 104] <| fun (p5 : Option Addr) (l6 : Nat) (l7 : Nat) =>
  T.osome p0 <| fun (a8 : Addr) =>
  T.stores (a8.add 1) [.bool (decide ((l6 : Int) > (65535 : Int)))] <|
  T.loads a2 [.slice 104] <| fun (p9 : Option Addr) (l10 : Nat) (l11 : Nat) =>
  T.call Tryz.prog 39 [.pointer p0, .int .u32 (IntKind.wrap .u32 (l10 : Int)), .int .i64 (2 : Int)] true [] <| T.loads a2 [.slice 104] <| fun (p12 : Option Addr) (l13 : Nat) (l14 : Nat) =>
  T.loop [(false, [.int .i64])] [.int .i64 (0 : Int)] <| fun (n15 : Int) =>
  cond (decide (n15 < (l13 : Int)))
   (T.need (((0 : Int) ≤ n15) ∧ (n15 < (l13 : Int))) <|
   T.osome p12 <| fun (a16 : Addr) =>
   T.loads (a16.add ((Int.toNat n15) * 2)) [.string, .int .u32] <| fun (s17 : ByteArray) (n18 : Int) =>
   T.new [.string ⟨#[]⟩, .int .u32 (0 : Int)] 104 <| fun (a19 : Addr) =>
   T.stores a19 [.string s17, .int .u32 n18] <|
   T.loads a19 [.string] <| fun (s20 : ByteArray) =>
   T.call Tryz.prog 40 [.pointer p0, .string s20] true [] <| T.loads (a19.add 1) [.int .u32] <| fun (n21 : Int) =>
   T.call Tryz.prog 39 [.pointer p0, .int .u32 n21, .int .i64 (4 : Int)] true [] <| T.again 0 [.int .i64 (IntKind.wrap .i64 (n15 + (1 : Int)))])
   (T.loads (a2.add 1) [.int .u32] <| fun (n16 : Int) =>
   T.call Tryz.prog 39 [.pointer p0, .int .u32 n16, .int .i64 (4 : Int)] true [] <| T.ret (.tuple #[])))
theorem t_object_writer__lin_eq (p0 : Option Addr) (pp10 : Option Addr) (ll10 cc10 : Nat) (n1_1 : Int) : xfun Tryz.prog [] Tryz.f41 [.pointer p0, .agg #[.slice pp10 ll10 cc10, .int .u32 n1_1]] = t_object_writer__lin p0 pp10 ll10 cc10 n1_1 := by kernel_rfl

/-- The tree of 15. -/
def t_object_writer__items (p0 : Option Addr) (pp10 : Option Addr) (ll10 cc10 : Nat) : T :=
 T.call Tryz.prog 39 [.pointer p0, .int .u32 (IntKind.wrap .u32 (ll10 : Int)), .int .i64 (2 : Int)] true [] <| T.loop [(false, [.int .i64])] [.int .i64 (0 : Int)] <| fun (n2 : Int) =>
 cond (decide (n2 < (ll10 : Int)))
  (T.need (((0 : Int) ≤ n2) ∧ (n2 < (ll10 : Int))) <|
  T.osome pp10 <| fun (a3 : Addr) =>
  T.loads (a3.add ((Int.toNat n2) * 10)) [.int .i64, .string, .int .i64, .int .i64, .int .i64, .int .i32, .int .i64, .slice 104, .int .u32, .int .i64] <| fun (n4 : Int) (s5 : ByteArray) (n6 : Int) (n7 : Int) (n8 : Int) (n9 : Int) (n10 : Int) (p11 : Option Addr) (l12 : Nat) (l13 : Nat) (n14 : Int) (n15 : Int) =>
  T.new [.int .i64 (0 : Int), .string ⟨#[]⟩, .int .i64 (0 : Int), .int .i64 (0 : Int), .int .i64 (0 : Int), .int .i32 (0 : Int), .int .i64 (0 : Int), .slice none 0 0, .int .u32 (0 : Int), .int .i64 (0 : Int)] 102 <| fun (a16 : Addr) =>
  T.stores a16 [.int .i64 n4, .string s5, .int .i64 n6, .int .i64 n7, .int .i64 n8, .int .i32 n9, .int .i64 n10, .slice p11 l12 l13, .int .u32 n14, .int .i64 n15] <|
  T.loads a16 [.int .i64] <| fun (n17 : Int) =>
  T.call Tryz.prog 39 [.pointer p0, .int .u32 (IntKind.wrap .u32 n17), .int .i64 (1 : Int)] true [] <| T.loads a16 [.int .i64] <| fun (n18 : Int) =>
  cond (n18 == (1 : Int))
   (T.loads (a16.add 1) [.string] <| fun (s19 : ByteArray) =>
   T.call Tryz.prog 40 [.pointer p0, .string s19] true [] <| T.again 0 [.int .i64 (IntKind.wrap .i64 (n2 + (1 : Int)))])
   (cond (n18 == (2 : Int))
    (T.osome p0 <| fun (a19 : Addr) =>
    T.loads a19 [.slice 5] <| fun (p20 : Option Addr) (l21 : Nat) (l22 : Nat) =>
    T.loads (a16.add 2) [.int .i64] <| fun (n23 : Int) =>
    T.loads ((a16.add 2).add 1) [.int .i64] <| fun (n24 : Int) =>
    T.loads ((a16.add 2).add 2) [.int .i64] <| fun (n25 : Int) =>
    T.sem Tryz.prog (Instr.buildSlice 22 3 #[(0, .int .u8 (IntKind.wrap .u8 n23)), (1, .int .u8 (IntKind.wrap .u8 n24)), (2, .int .u8 (IntKind.wrap .u8 n25))]) false [(false, [.slice 0])] <| fun (p26 : Option Addr) (l27 : Nat) (l28 : Nat) =>
    T.stable [(((a16.add 2).add 2), [.int .i64 n25]), (((a16.add 2).add 1), [.int .i64 n24]), ((a16.add 2), [.int .i64 n23]), (a19, [.slice p20 l21 l22])] <|
    T.sem Tryz.prog (Builtin.append_ #[22, 22] 22 #[.slice p20 l21 l22, .slice p26 l27 l28]) false [(false, [.slice 0])] <| fun (p29 : Option Addr) (l30 : Nat) (l31 : Nat) =>
    T.stable [(((a16.add 2).add 2), [.int .i64 n25]), (((a16.add 2).add 1), [.int .i64 n24]), ((a16.add 2), [.int .i64 n23])] <|
    T.osome p0 <| fun (a32 : Addr) =>
    T.stores a32 [.slice p29 l30 l31] <|
    T.loads ((a16.add 2).add 3) [.int .i32] <| fun (n33 : Int) =>
    T.call Tryz.prog 39 [.pointer p0, .int .u32 (IntKind.wrap .u32 n33), .int .i64 (4 : Int)] true [] <| T.loads (a16.add 2) [.int .i64] <| fun (n34 : Int) =>
    T.call Tryz.prog 71 [.int .i64 n34] false [(false, [.bool])] <| fun (b35 : Bool) =>
    cond b35
     (T.loads (a16.add 7) [.slice 104, .int .u32] <| fun (p36 : Option Addr) (l37 : Nat) (l38 : Nat) (n39 : Int) =>
     T.call Tryz.prog 41 [.pointer p0, .agg #[.slice p36 l37 l38, .int .u32 n39]] true [] <| T.again 0 [.int .i64 (IntKind.wrap .i64 (n2 + (1 : Int)))])
     (T.again 0 [.int .i64 (IntKind.wrap .i64 (n2 + (1 : Int)))]))
    (cond (n18 == (3 : Int))
     (cond (n18 == (3 : Int))
      (T.loads (a16.add 9) [.int .i64] <| fun (n19 : Int) =>
      T.call Tryz.prog 39 [.pointer p0, .int .u32 (IntKind.wrap .u32 n19), .int .i64 (2 : Int)] true [] <| T.again 0 [.int .i64 (IntKind.wrap .i64 (n2 + (1 : Int)))])
      (cond (n18 == (6 : Int))
       (T.loads (a16.add 7) [.slice 104, .int .u32] <| fun (p19 : Option Addr) (l20 : Nat) (l21 : Nat) (n22 : Int) =>
       T.call Tryz.prog 41 [.pointer p0, .agg #[.slice p19 l20 l21, .int .u32 n22]] true [] <| T.again 0 [.int .i64 (IntKind.wrap .i64 (n2 + (1 : Int)))])
       (cond (n18 == (7 : Int))
        (T.loads (a16.add 9) [.int .i64] <| fun (n19 : Int) =>
        T.call Tryz.prog 39 [.pointer p0, .int .u32 (IntKind.wrap .u32 n19), .int .i64 (4 : Int)] true [] <| T.again 0 [.int .i64 (IntKind.wrap .i64 (n2 + (1 : Int)))])
        (T.again 0 [.int .i64 (IntKind.wrap .i64 (n2 + (1 : Int)))]))))
     (cond (n18 == (5 : Int))
      (T.loads (a16.add 9) [.int .i64] <| fun (n19 : Int) =>
      T.call Tryz.prog 39 [.pointer p0, .int .u32 (IntKind.wrap .u32 n19), .int .i64 (2 : Int)] true [] <| T.again 0 [.int .i64 (IntKind.wrap .i64 (n2 + (1 : Int)))])
      (cond (n18 == (6 : Int))
       (T.loads (a16.add 7) [.slice 104, .int .u32] <| fun (p19 : Option Addr) (l20 : Nat) (l21 : Nat) (n22 : Int) =>
       T.call Tryz.prog 41 [.pointer p0, .agg #[.slice p19 l20 l21, .int .u32 n22]] true [] <| T.again 0 [.int .i64 (IntKind.wrap .i64 (n2 + (1 : Int)))])
       (cond (n18 == (7 : Int))
        (T.loads (a16.add 9) [.int .i64] <| fun (n19 : Int) =>
        T.call Tryz.prog 39 [.pointer p0, .int .u32 (IntKind.wrap .u32 n19), .int .i64 (4 : Int)] true [] <| T.again 0 [.int .i64 (IntKind.wrap .i64 (n2 + (1 : Int)))])
        (T.again 0 [.int .i64 (IntKind.wrap .i64 (n2 + (1 : Int)))])))))))
  (T.ret (.tuple #[]))
theorem t_object_writer__items_eq (p0 : Option Addr) (pp10 : Option Addr) (ll10 cc10 : Nat) : xfun Tryz.prog [] Tryz.f38 [.pointer p0, .slice pp10 ll10 cc10] = t_object_writer__items p0 pp10 ll10 cc10 := by kernel_rfl

/-- The tree of 6. -/
def t_object_Write (pp00 : Option Addr) (ll00 cc00 : Nat) (pp01 : Option Addr) (ll01 cc01 : Nat) (pp02 : Option Addr) (ll02 cc02 : Nat) (pp03 : Option Addr) (ll03 cc03 : Nat) : T :=
 T.new [.slice pp00 ll00 cc00, .slice pp01 ll01 cc01, .slice pp02 ll02 cc02, .slice pp03 ll03 cc03] 28 <| fun (a1 : Addr) =>
 T.loads a1 [.slice 102, .slice 102, .slice 78, .slice 9] <| fun (p2 : Option Addr) (l3 : Nat) (l4 : Nat) (p5 : Option Addr) (l6 : Nat) (l7 : Nat) (p8 : Option Addr) (l9 : Nat) (l10 : Nat) (p11 : Option Addr) (l12 : Nat) (l13 : Nat) =>
 T.call Tryz.prog 37 [.agg #[.slice p2 l3 l4, .slice p5 l6 l7, .slice p8 l9 l10, .slice p11 l12 l13]] false [(false, [.int .i64])] <| fun (n14 : Int) =>
 cond (n14 != (0 : Int))
  (T.ret (.tuple #[.slice none 0 0, .int .i64 (31 : Int)]))
  (T.sem Tryz.prog (Instr.buildSlice 22 5 #[(0, .int .u8 (83 : Int)), (1, .int .u8 (80 : Int)), (2, .int .u8 (65 : Int)), (3, .int .u8 (78 : Int)), (4, .int .u8 (1 : Int))]) false [(false, [.slice 0])] <| fun (p15 : Option Addr) (l16 : Nat) (l17 : Nat) =>
  T.sem Tryz.prog (convert 22 22 (.slice p15 l16 l17)) false [(false, [.slice 0])] <| fun (p18 : Option Addr) (l19 : Nat) (l20 : Nat) =>
  T.new [.slice p18 l19 l20, .bool false] 92 <| fun (a21 : Addr) =>
  T.loads a1 [.slice 102] <| fun (p22 : Option Addr) (l23 : Nat) (l24 : Nat) =>
  T.call Tryz.prog 38 [.pointer (some a21), .slice p22 l23 l24] true [] <| T.loads (a1.add 1) [.slice 102] <| fun (p25 : Option Addr) (l26 : Nat) (l27 : Nat) =>
  T.call Tryz.prog 38 [.pointer (some a21), .slice p25 l26 l27] true [] <| T.loads (a1.add 2) [.slice 78] <| fun (p28 : Option Addr) (l29 : Nat) (l30 : Nat) =>
  T.call Tryz.prog 39 [.pointer (some a21), .int .u32 (IntKind.wrap .u32 (l29 : Int)), .int .i64 (2 : Int)] true [] <| T.loads (a1.add 2) [.slice 78] <| fun (p31 : Option Addr) (l32 : Nat) (l33 : Nat) =>
  T.loop [(false, [.int .i64])] [.int .i64 (0 : Int)] <| fun (n34 : Int) =>
  cond (decide (n34 < (l32 : Int)))
   (T.need (((0 : Int) ≤ n34) ∧ (n34 < (l32 : Int))) <|
   T.osome p31 <| fun (a35 : Addr) =>
   T.loads (a35.add ((Int.toNat n34) * 3)) [.string, .slice 104, .int .u32] <| fun (s36 : ByteArray) (p37 : Option Addr) (l38 : Nat) (l39 : Nat) (n40 : Int) =>
   T.new [.string ⟨#[]⟩, .slice none 0 0, .int .u32 (0 : Int)] 78 <| fun (a41 : Addr) =>
   T.stores a41 [.string s36, .slice p37 l38 l39, .int .u32 n40] <|
   T.loads a41 [.string] <| fun (s42 : ByteArray) =>
   T.call Tryz.prog 40 [.pointer (some a21), .string s42] true [] <| T.loads (a41.add 1) [.slice 104, .int .u32] <| fun (p43 : Option Addr) (l44 : Nat) (l45 : Nat) (n46 : Int) =>
   T.call Tryz.prog 41 [.pointer (some a21), .agg #[.slice p43 l44 l45, .int .u32 n46]] true [] <| T.again 0 [.int .i64 (IntKind.wrap .i64 (n34 + (1 : Int)))])
   (T.loads (a1.add 3) [.slice 9] <| fun (p35 : Option Addr) (l36 : Nat) (l37 : Nat) =>
   T.call Tryz.prog 39 [.pointer (some a21), .int .u32 (IntKind.wrap .u32 (l36 : Int)), .int .i64 (2 : Int)] true [] <| T.loads (a1.add 3) [.slice 9] <| fun (p38 : Option Addr) (l39 : Nat) (l40 : Nat) =>
   T.loop [(false, [.int .i64])] [.int .i64 (0 : Int)] <| fun (n41 : Int) =>
   cond (decide (n41 < (l39 : Int)))
    (T.need (((0 : Int) ≤ n41) ∧ (n41 < (l39 : Int))) <|
    T.osome p38 <| fun (a42 : Addr) =>
    T.loads (a42.add ((Int.toNat n41) * 1)) [.string] <| fun (s43 : ByteArray) =>
    T.call Tryz.prog 40 [.pointer (some a21), .string s43] true [] <| T.again 1 [.int .i64 (IntKind.wrap .i64 (n41 + (1 : Int)))])
    (T.loads (a21.add 1) [.bool] <| fun (b42 : Bool) =>
    cond b42
     (T.ret (.tuple #[.slice none 0 0, .int .i64 (4 : Int)]))
     (T.loads a21 [.slice 5] <| fun (p43 : Option Addr) (l44 : Nat) (l45 : Nat) =>
     cond (decide ((l44 : Int) > (1048576 : Int)))
      (T.ret (.tuple #[.slice none 0 0, .int .i64 (3 : Int)]))
      (T.loads a21 [.slice 5] <| fun (p46 : Option Addr) (l47 : Nat) (l48 : Nat) =>
      T.ret (.tuple #[.slice p46 l47 l48, .int .i64 (0 : Int)]))))))
theorem t_object_Write_eq (pp00 : Option Addr) (ll00 cc00 : Nat) (pp01 : Option Addr) (ll01 cc01 : Nat) (pp02 : Option Addr) (ll02 cc02 : Nat) (pp03 : Option Addr) (ll03 cc03 : Nat) : xfun Tryz.prog [] Tryz.f14 [.agg #[.slice pp00 ll00 cc00, .slice pp01 ll01 cc01, .slice pp02 ll02 cc02, .slice pp03 ll03 cc03]] = t_object_Write pp00 ll00 cc00 pp01 ll01 cc01 pp02 ll02 cc02 pp03 ll03 cc03 := by kernel_rfl

/-- The tree of 32. -/
def t_object_rows_api_Item_ (p0 : Option Addr) (n1 : Int) (v2 : Value) : T :=
 T.osome p0 <| fun (a3 : Addr) =>
 T.loads (a3.add 1) [.int .i64] <| fun (n4 : Int) =>
 T.call Tryz.prog 81 [.pointer p0, .int .i64 (2 : Int)] false [(false, [.int .u32])] <| fun (n5 : Int) =>
 cond (decide (n1 ≥ (0 : Int)))
  (cond (decide ((IntKind.wrap .i64 n5) > n1))
   (T.call Tryz.prog 49 [.pointer p0, .int .i64 n4, .int .i64 (4 : Int)] true [] <| T.loop [(false, [.int .i64]), (false, [.slice 0])] [.int .i64 (IntKind.wrap .i64 n5), .slice none 0 0] <| fun (n6 : Int) (p7 : Option Addr) (l8 : Nat) (l9 : Nat) =>
   cond (decide (n6 > (0 : Int)))
    (T.osome p0 <| fun (a10 : Addr) =>
    T.loads (a10.add 2) [.pointer 59] <| fun (p11 : Option Addr) =>
    cond (/-?Option.isSome.match_1-/ match p11 with
    | some val => false
    | none => true)
     (T.callv Tryz.prog v2 [] false [(true, [.int .i64, .string, .int .i64, .int .i64, .int .i64, .int .i32, .int .i64, .slice 104, .int .u32, .int .i64])] <| fun (n12 : Int) (s13 : ByteArray) (n14 : Int) (n15 : Int) (n16 : Int) (n17 : Int) (n18 : Int) (p19 : Option Addr) (l20 : Nat) (l21 : Nat) (n22 : Int) (n23 : Int) =>
     T.sem Tryz.prog (Instr.buildSlice 24 1 #[(0, .agg #[.int .i64 n12, .string s13, .int .i64 n14, .int .i64 n15, .int .i64 n16, .int .i32 n17, .int .i64 n18, .slice p19 l20 l21, .int .u32 n22, .int .i64 n23])]) false [(false, [.slice 0])] <| fun (p24 : Option Addr) (l25 : Nat) (l26 : Nat) =>
     T.sem Tryz.prog (Builtin.append_ #[24, 24] 24 #[.slice p7 l8 l9, .slice p24 l25 l26]) false [(false, [.slice 0])] <| fun (p27 : Option Addr) (l28 : Nat) (l29 : Nat) =>
     T.again 0 [.int .i64 (IntKind.wrap .i64 (n6 - (1 : Int))), .slice p27 l28 l29])
     (T.ret (.slice p7 l8 l9)))
    (T.ret (.slice p7 l8 l9)))
   (T.loop [(false, [.int .i64]), (false, [.slice 0])] [.int .i64 (IntKind.wrap .i64 n5), .slice none 0 0] <| fun (n6 : Int) (p7 : Option Addr) (l8 : Nat) (l9 : Nat) =>
   cond (decide (n6 > (0 : Int)))
    (T.osome p0 <| fun (a10 : Addr) =>
    T.loads (a10.add 2) [.pointer 59] <| fun (p11 : Option Addr) =>
    cond (/-?Option.isSome.match_1-/ match p11 with
    | some val => false
    | none => true)
     (T.callv Tryz.prog v2 [] false [(true, [.int .i64, .string, .int .i64, .int .i64, .int .i64, .int .i32, .int .i64, .slice 104, .int .u32, .int .i64])] <| fun (n12 : Int) (s13 : ByteArray) (n14 : Int) (n15 : Int) (n16 : Int) (n17 : Int) (n18 : Int) (p19 : Option Addr) (l20 : Nat) (l21 : Nat) (n22 : Int) (n23 : Int) =>
     T.sem Tryz.prog (Instr.buildSlice 24 1 #[(0, .agg #[.int .i64 n12, .string s13, .int .i64 n14, .int .i64 n15, .int .i64 n16, .int .i32 n17, .int .i64 n18, .slice p19 l20 l21, .int .u32 n22, .int .i64 n23])]) false [(false, [.slice 0])] <| fun (p24 : Option Addr) (l25 : Nat) (l26 : Nat) =>
     T.sem Tryz.prog (Builtin.append_ #[24, 24] 24 #[.slice p7 l8 l9, .slice p24 l25 l26]) false [(false, [.slice 0])] <| fun (p27 : Option Addr) (l28 : Nat) (l29 : Nat) =>
     T.again 0 [.int .i64 (IntKind.wrap .i64 (n6 - (1 : Int))), .slice p27 l28 l29])
     (T.ret (.slice p7 l8 l9)))
    (T.ret (.slice p7 l8 l9))))
  (T.loop [(false, [.int .i64]), (false, [.slice 0])] [.int .i64 (IntKind.wrap .i64 n5), .slice none 0 0] <| fun (n6 : Int) (p7 : Option Addr) (l8 : Nat) (l9 : Nat) =>
  cond (decide (n6 > (0 : Int)))
   (T.osome p0 <| fun (a10 : Addr) =>
   T.loads (a10.add 2) [.pointer 59] <| fun (p11 : Option Addr) =>
   cond (/-?Option.isSome.match_1-/ match p11 with
   | some val => false
   | none => true)
    (T.callv Tryz.prog v2 [] false [(true, [.int .i64, .string, .int .i64, .int .i64, .int .i64, .int .i32, .int .i64, .slice 104, .int .u32, .int .i64])] <| fun (n12 : Int) (s13 : ByteArray) (n14 : Int) (n15 : Int) (n16 : Int) (n17 : Int) (n18 : Int) (p19 : Option Addr) (l20 : Nat) (l21 : Nat) (n22 : Int) (n23 : Int) =>
    T.sem Tryz.prog (Instr.buildSlice 24 1 #[(0, .agg #[.int .i64 n12, .string s13, .int .i64 n14, .int .i64 n15, .int .i64 n16, .int .i32 n17, .int .i64 n18, .slice p19 l20 l21, .int .u32 n22, .int .i64 n23])]) false [(false, [.slice 0])] <| fun (p24 : Option Addr) (l25 : Nat) (l26 : Nat) =>
    T.sem Tryz.prog (Builtin.append_ #[24, 24] 24 #[.slice p7 l8 l9, .slice p24 l25 l26]) false [(false, [.slice 0])] <| fun (p27 : Option Addr) (l28 : Nat) (l29 : Nat) =>
    T.again 0 [.int .i64 (IntKind.wrap .i64 (n6 - (1 : Int))), .slice p27 l28 l29])
    (T.ret (.slice p7 l8 l9)))
   (T.ret (.slice p7 l8 l9)))
theorem t_object_rows_api_Item__eq (p0 : Option Addr) (n1 : Int) (v2 : Value) : xfun Tryz.prog [] Tryz.f50 [.pointer p0, .int .i64 n1, v2] = t_object_rows_api_Item_ p0 n1 v2 := by kernel_rfl

/-- The tree of 36. -/
def t_object_rows_api_Equ_ (p0 : Option Addr) (n1 : Int) (v2 : Value) : T :=
 T.osome p0 <| fun (a3 : Addr) =>
 T.loads (a3.add 1) [.int .i64] <| fun (n4 : Int) =>
 T.call Tryz.prog 81 [.pointer p0, .int .i64 (2 : Int)] false [(false, [.int .u32])] <| fun (n5 : Int) =>
 cond (decide (n1 ≥ (0 : Int)))
  (cond (decide ((IntKind.wrap .i64 n5) > n1))
   (T.call Tryz.prog 49 [.pointer p0, .int .i64 n4, .int .i64 (4 : Int)] true [] <| T.loop [(false, [.int .i64]), (false, [.slice 0])] [.int .i64 (IntKind.wrap .i64 n5), .slice none 0 0] <| fun (n6 : Int) (p7 : Option Addr) (l8 : Nat) (l9 : Nat) =>
   cond (decide (n6 > (0 : Int)))
    (T.osome p0 <| fun (a10 : Addr) =>
    T.loads (a10.add 2) [.pointer 59] <| fun (p11 : Option Addr) =>
    cond (/-?Option.isSome.match_1-/ match p11 with
    | some val => false
    | none => true)
     (T.callv Tryz.prog v2 [] false [(true, [.string, .slice 104, .int .u32])] <| fun (s12 : ByteArray) (p13 : Option Addr) (l14 : Nat) (l15 : Nat) (n16 : Int) =>
     T.sem Tryz.prog (Instr.buildSlice 25 1 #[(0, .agg #[.string s12, .slice p13 l14 l15, .int .u32 n16])]) false [(false, [.slice 0])] <| fun (p17 : Option Addr) (l18 : Nat) (l19 : Nat) =>
     T.sem Tryz.prog (Builtin.append_ #[25, 25] 25 #[.slice p7 l8 l9, .slice p17 l18 l19]) false [(false, [.slice 0])] <| fun (p20 : Option Addr) (l21 : Nat) (l22 : Nat) =>
     T.again 0 [.int .i64 (IntKind.wrap .i64 (n6 - (1 : Int))), .slice p20 l21 l22])
     (T.ret (.slice p7 l8 l9)))
    (T.ret (.slice p7 l8 l9)))
   (T.loop [(false, [.int .i64]), (false, [.slice 0])] [.int .i64 (IntKind.wrap .i64 n5), .slice none 0 0] <| fun (n6 : Int) (p7 : Option Addr) (l8 : Nat) (l9 : Nat) =>
   cond (decide (n6 > (0 : Int)))
    (T.osome p0 <| fun (a10 : Addr) =>
    T.loads (a10.add 2) [.pointer 59] <| fun (p11 : Option Addr) =>
    cond (/-?Option.isSome.match_1-/ match p11 with
    | some val => false
    | none => true)
     (T.callv Tryz.prog v2 [] false [(true, [.string, .slice 104, .int .u32])] <| fun (s12 : ByteArray) (p13 : Option Addr) (l14 : Nat) (l15 : Nat) (n16 : Int) =>
     T.sem Tryz.prog (Instr.buildSlice 25 1 #[(0, .agg #[.string s12, .slice p13 l14 l15, .int .u32 n16])]) false [(false, [.slice 0])] <| fun (p17 : Option Addr) (l18 : Nat) (l19 : Nat) =>
     T.sem Tryz.prog (Builtin.append_ #[25, 25] 25 #[.slice p7 l8 l9, .slice p17 l18 l19]) false [(false, [.slice 0])] <| fun (p20 : Option Addr) (l21 : Nat) (l22 : Nat) =>
     T.again 0 [.int .i64 (IntKind.wrap .i64 (n6 - (1 : Int))), .slice p20 l21 l22])
     (T.ret (.slice p7 l8 l9)))
    (T.ret (.slice p7 l8 l9))))
  (T.loop [(false, [.int .i64]), (false, [.slice 0])] [.int .i64 (IntKind.wrap .i64 n5), .slice none 0 0] <| fun (n6 : Int) (p7 : Option Addr) (l8 : Nat) (l9 : Nat) =>
  cond (decide (n6 > (0 : Int)))
   (T.osome p0 <| fun (a10 : Addr) =>
   T.loads (a10.add 2) [.pointer 59] <| fun (p11 : Option Addr) =>
   cond (/-?Option.isSome.match_1-/ match p11 with
   | some val => false
   | none => true)
    (T.callv Tryz.prog v2 [] false [(true, [.string, .slice 104, .int .u32])] <| fun (s12 : ByteArray) (p13 : Option Addr) (l14 : Nat) (l15 : Nat) (n16 : Int) =>
    T.sem Tryz.prog (Instr.buildSlice 25 1 #[(0, .agg #[.string s12, .slice p13 l14 l15, .int .u32 n16])]) false [(false, [.slice 0])] <| fun (p17 : Option Addr) (l18 : Nat) (l19 : Nat) =>
    T.sem Tryz.prog (Builtin.append_ #[25, 25] 25 #[.slice p7 l8 l9, .slice p17 l18 l19]) false [(false, [.slice 0])] <| fun (p20 : Option Addr) (l21 : Nat) (l22 : Nat) =>
    T.again 0 [.int .i64 (IntKind.wrap .i64 (n6 - (1 : Int))), .slice p20 l21 l22])
    (T.ret (.slice p7 l8 l9)))
   (T.ret (.slice p7 l8 l9)))
theorem t_object_rows_api_Equ__eq (p0 : Option Addr) (n1 : Int) (v2 : Value) : xfun Tryz.prog [] Tryz.f54 [.pointer p0, .int .i64 n1, v2] = t_object_rows_api_Equ_ p0 n1 v2 := by kernel_rfl

/-- The tree of 38. -/
def t_object_rows_string_ (p0 : Option Addr) (n1 : Int) (v2 : Value) : T :=
 T.osome p0 <| fun (a3 : Addr) =>
 T.loads (a3.add 1) [.int .i64] <| fun (n4 : Int) =>
 T.call Tryz.prog 81 [.pointer p0, .int .i64 (2 : Int)] false [(false, [.int .u32])] <| fun (n5 : Int) =>
 cond (decide (n1 ≥ (0 : Int)))
  (cond (decide ((IntKind.wrap .i64 n5) > n1))
   (T.call Tryz.prog 49 [.pointer p0, .int .i64 n4, .int .i64 (4 : Int)] true [] <| T.loop [(false, [.int .i64]), (false, [.slice 0])] [.int .i64 (IntKind.wrap .i64 n5), .slice none 0 0] <| fun (n6 : Int) (p7 : Option Addr) (l8 : Nat) (l9 : Nat) =>
   cond (decide (n6 > (0 : Int)))
    (T.osome p0 <| fun (a10 : Addr) =>
    T.loads (a10.add 2) [.pointer 59] <| fun (p11 : Option Addr) =>
    cond (/-?Option.isSome.match_1-/ match p11 with
    | some val => false
    | none => true)
     (T.callv Tryz.prog v2 [] false [(false, [.string])] <| fun (s12 : ByteArray) =>
     T.sem Tryz.prog (Instr.buildSlice 26 1 #[(0, .string s12)]) false [(false, [.slice 0])] <| fun (p13 : Option Addr) (l14 : Nat) (l15 : Nat) =>
     T.sem Tryz.prog (Builtin.append_ #[26, 26] 26 #[.slice p7 l8 l9, .slice p13 l14 l15]) false [(false, [.slice 0])] <| fun (p16 : Option Addr) (l17 : Nat) (l18 : Nat) =>
     T.again 0 [.int .i64 (IntKind.wrap .i64 (n6 - (1 : Int))), .slice p16 l17 l18])
     (T.ret (.slice p7 l8 l9)))
    (T.ret (.slice p7 l8 l9)))
   (T.loop [(false, [.int .i64]), (false, [.slice 0])] [.int .i64 (IntKind.wrap .i64 n5), .slice none 0 0] <| fun (n6 : Int) (p7 : Option Addr) (l8 : Nat) (l9 : Nat) =>
   cond (decide (n6 > (0 : Int)))
    (T.osome p0 <| fun (a10 : Addr) =>
    T.loads (a10.add 2) [.pointer 59] <| fun (p11 : Option Addr) =>
    cond (/-?Option.isSome.match_1-/ match p11 with
    | some val => false
    | none => true)
     (T.callv Tryz.prog v2 [] false [(false, [.string])] <| fun (s12 : ByteArray) =>
     T.sem Tryz.prog (Instr.buildSlice 26 1 #[(0, .string s12)]) false [(false, [.slice 0])] <| fun (p13 : Option Addr) (l14 : Nat) (l15 : Nat) =>
     T.sem Tryz.prog (Builtin.append_ #[26, 26] 26 #[.slice p7 l8 l9, .slice p13 l14 l15]) false [(false, [.slice 0])] <| fun (p16 : Option Addr) (l17 : Nat) (l18 : Nat) =>
     T.again 0 [.int .i64 (IntKind.wrap .i64 (n6 - (1 : Int))), .slice p16 l17 l18])
     (T.ret (.slice p7 l8 l9)))
    (T.ret (.slice p7 l8 l9))))
  (T.loop [(false, [.int .i64]), (false, [.slice 0])] [.int .i64 (IntKind.wrap .i64 n5), .slice none 0 0] <| fun (n6 : Int) (p7 : Option Addr) (l8 : Nat) (l9 : Nat) =>
  cond (decide (n6 > (0 : Int)))
   (T.osome p0 <| fun (a10 : Addr) =>
   T.loads (a10.add 2) [.pointer 59] <| fun (p11 : Option Addr) =>
   cond (/-?Option.isSome.match_1-/ match p11 with
   | some val => false
   | none => true)
    (T.callv Tryz.prog v2 [] false [(false, [.string])] <| fun (s12 : ByteArray) =>
    T.sem Tryz.prog (Instr.buildSlice 26 1 #[(0, .string s12)]) false [(false, [.slice 0])] <| fun (p13 : Option Addr) (l14 : Nat) (l15 : Nat) =>
    T.sem Tryz.prog (Builtin.append_ #[26, 26] 26 #[.slice p7 l8 l9, .slice p13 l14 l15]) false [(false, [.slice 0])] <| fun (p16 : Option Addr) (l17 : Nat) (l18 : Nat) =>
    T.again 0 [.int .i64 (IntKind.wrap .i64 (n6 - (1 : Int))), .slice p16 l17 l18])
    (T.ret (.slice p7 l8 l9)))
   (T.ret (.slice p7 l8 l9)))
theorem t_object_rows_string__eq (p0 : Option Addr) (n1 : Int) (v2 : Value) : xfun Tryz.prog [] Tryz.f56 [.pointer p0, .int .i64 n1, v2] = t_object_rows_string_ p0 n1 v2 := by kernel_rfl

/-- The tree of 37. -/
def t_object_reader__equ (p0 : Option Addr) : T :=
 T.new [.string ⟨#[]⟩, .slice none 0 0, .int .u32 (0 : Int)] 78 <| fun (a1 : Addr) =>
 T.osome p0 <| fun (a2 : Addr) =>
 T.loads (a2.add 1) [.int .i64] <| fun (n3 : Int) =>
 T.call Tryz.prog 58 [.pointer p0] false [(false, [.string])] <| fun (s4 : ByteArray) =>
 T.new [.string ⟨#[]⟩, .slice none 0 0, .int .u32 (0 : Int)] 78 <| fun (a5 : Addr) =>
 T.stores a5 [.string s4, .slice none 0 0, .int .u32 (0 : Int)] <|
 T.call Tryz.prog 82 [.pointer p0] false [(true, [.slice 104, .int .u32])] <| fun (p6 : Option Addr) (l7 : Nat) (l8 : Nat) (n9 : Int) =>
 T.stores (a5.add 1) [.slice p6 l7 l8, .int .u32 n9] <|
 T.osome p0 <| fun (a10 : Addr) =>
 T.loads (a10.add 3) [.map 9 4] <| fun (r11 : Option Nat) =>
 T.loads a5 [.string] <| fun (s12 : ByteArray) =>
 T.sem Tryz.prog (Instr.lookup 61 (.map r11) (.string s12) false) false [(false, [.bool])] <| fun (b13 : Bool) =>
 cond b13
  (T.call Tryz.prog 49 [.pointer p0, .int .i64 n3, .int .i64 (31 : Int)] true [] <| T.osome p0 <| fun (a14 : Addr) =>
  T.loads (a14.add 3) [.map 9 4] <| fun (r15 : Option Nat) =>
  T.loads a5 [.string] <| fun (s16 : ByteArray) =>
  T.semU Tryz.prog (Instr.mapUpdate 61 (.map r15) (.string s16) (.bool true)) <|
  T.loads a5 [.string, .slice 104, .int .u32] <| fun (s17 : ByteArray) (p18 : Option Addr) (l19 : Nat) (l20 : Nat) (n21 : Int) =>
  T.stores a1 [.string s17, .slice p18 l19 l20, .int .u32 n21] <|
  T.loads a1 [.string, .slice 104, .int .u32] <| fun (s22 : ByteArray) (p23 : Option Addr) (l24 : Nat) (l25 : Nat) (n26 : Int) =>
  T.ret (.agg #[.string s22, .slice p23 l24 l25, .int .u32 n26]))
  (T.loads a5 [.string] <| fun (s14 : ByteArray) =>
  T.call Tryz.prog 69 [.string s14] false [(false, [.bool])] <| fun (b15 : Bool) =>
  T.stable [(a5, [.string s12]), ((a10.add 3), [.map r11])] <|
  cond (!b15)
   (T.call Tryz.prog 49 [.pointer p0, .int .i64 n3, .int .i64 (31 : Int)] true [] <| T.osome p0 <| fun (a16 : Addr) =>
   T.loads (a16.add 3) [.map 9 4] <| fun (r17 : Option Nat) =>
   T.loads a5 [.string] <| fun (s18 : ByteArray) =>
   T.semU Tryz.prog (Instr.mapUpdate 61 (.map r17) (.string s18) (.bool true)) <|
   T.loads a5 [.string, .slice 104, .int .u32] <| fun (s19 : ByteArray) (p20 : Option Addr) (l21 : Nat) (l22 : Nat) (n23 : Int) =>
   T.stores a1 [.string s19, .slice p20 l21 l22, .int .u32 n23] <|
   T.loads a1 [.string, .slice 104, .int .u32] <| fun (s24 : ByteArray) (p25 : Option Addr) (l26 : Nat) (l27 : Nat) (n28 : Int) =>
   T.ret (.agg #[.string s24, .slice p25 l26 l27, .int .u32 n28]))
   (T.loads (a5.add 1) [.slice 104, .int .u32] <| fun (p16 : Option Addr) (l17 : Nat) (l18 : Nat) (n19 : Int) =>
   T.call Tryz.prog 70 [.agg #[.slice p16 l17 l18, .int .u32 n19]] false [(false, [.bool])] <| fun (b20 : Bool) =>
   T.stable [(a5, [.string s14]), (a5, [.string s12]), ((a10.add 3), [.map r11])] <|
   cond (!b20)
    (T.call Tryz.prog 49 [.pointer p0, .int .i64 n3, .int .i64 (31 : Int)] true [] <| T.osome p0 <| fun (a21 : Addr) =>
    T.loads (a21.add 3) [.map 9 4] <| fun (r22 : Option Nat) =>
    T.loads a5 [.string] <| fun (s23 : ByteArray) =>
    T.semU Tryz.prog (Instr.mapUpdate 61 (.map r22) (.string s23) (.bool true)) <|
    T.loads a5 [.string, .slice 104, .int .u32] <| fun (s24 : ByteArray) (p25 : Option Addr) (l26 : Nat) (l27 : Nat) (n28 : Int) =>
    T.stores a1 [.string s24, .slice p25 l26 l27, .int .u32 n28] <|
    T.loads a1 [.string, .slice 104, .int .u32] <| fun (s29 : ByteArray) (p30 : Option Addr) (l31 : Nat) (l32 : Nat) (n33 : Int) =>
    T.ret (.agg #[.string s29, .slice p30 l31 l32, .int .u32 n33]))
    (T.osome p0 <| fun (a21 : Addr) =>
    T.loads (a21.add 3) [.map 9 4] <| fun (r22 : Option Nat) =>
    T.loads a5 [.string] <| fun (s23 : ByteArray) =>
    T.semU Tryz.prog (Instr.mapUpdate 61 (.map r22) (.string s23) (.bool true)) <|
    T.loads a5 [.string, .slice 104, .int .u32] <| fun (s24 : ByteArray) (p25 : Option Addr) (l26 : Nat) (l27 : Nat) (n28 : Int) =>
    T.stores a1 [.string s24, .slice p25 l26 l27, .int .u32 n28] <|
    T.loads a1 [.string, .slice 104, .int .u32] <| fun (s29 : ByteArray) (p30 : Option Addr) (l31 : Nat) (l32 : Nat) (n33 : Int) =>
    T.ret (.agg #[.string s29, .slice p30 l31 l32, .int .u32 n33]))))
theorem t_object_reader__equ_eq (p0 : Option Addr) : xfun Tryz.prog [] Tryz.f55 [.pointer p0] = t_object_reader__equ p0 := by kernel_rfl

/-- The tree of 19. -/
def t_object_reader__unit (p0 : Option Addr) : T :=
 T.new [.pointer p0] 60 <| fun (a1 : Addr) =>
 T.new [.slice none 0 0, .slice none 0 0, .slice none 0 0, .slice none 0 0] 28 <| fun (a2 : Addr) =>
 T.new [.slice none 0 0, .slice none 0 0, .slice none 0 0, .slice none 0 0] 28 <| fun (a3 : Addr) =>
 T.loop [(false, [.int .i64])] [.int .i64 (0 : Int)] <| fun (n4 : Int) =>
 cond (decide (n4 < (5 : Int)))
  (T.loads a1 [.pointer 63] <| fun (p5 : Option Addr) =>
  T.osome p5 <| fun (a6 : Addr) =>
  T.loads a6 [.slice 5] <| fun (p7 : Option Addr) (l8 : Nat) (l9 : Nat) =>
  cond (n4 == (l8 : Int))
   (T.loads a1 [.pointer 63] <| fun (p10 : Option Addr) =>
   T.call Tryz.prog 49 [.pointer p10, .int .i64 n4, .int .i64 (15 : Int)] true [] <| T.loads a3 [.slice 102, .slice 102, .slice 78, .slice 9] <| fun (p11 : Option Addr) (l12 : Nat) (l13 : Nat) (p14 : Option Addr) (l15 : Nat) (l16 : Nat) (p17 : Option Addr) (l18 : Nat) (l19 : Nat) (p20 : Option Addr) (l21 : Nat) (l22 : Nat) =>
   T.stores a2 [.slice p11 l12 l13, .slice p14 l15 l16, .slice p17 l18 l19, .slice p20 l21 l22] <|
   T.loads a2 [.slice 102, .slice 102, .slice 78, .slice 9] <| fun (p23 : Option Addr) (l24 : Nat) (l25 : Nat) (p26 : Option Addr) (l27 : Nat) (l28 : Nat) (p29 : Option Addr) (l30 : Nat) (l31 : Nat) (p32 : Option Addr) (l33 : Nat) (l34 : Nat) =>
   T.ret (.agg #[.slice p23 l24 l25, .slice p26 l27 l28, .slice p29 l30 l31, .slice p32 l33 l34]))
   (T.loads a1 [.pointer 63] <| fun (p10 : Option Addr) =>
   T.osome p10 <| fun (a11 : Addr) =>
   T.loads a11 [.slice 5] <| fun (p12 : Option Addr) (l13 : Nat) (l14 : Nat) =>
   T.need (((0 : Int) ≤ n4) ∧ (n4 < (l13 : Int))) <|
   T.osome p12 <| fun (a15 : Addr) =>
   T.loads (a15.add ((Int.toNat n4) * 1)) [.int .u8] <| fun (n16 : Int) =>
   T.need (((0 : Int) ≤ n4) ∧ (n4 < (5 : Int))) <|
   cond (n16 != (sbyte ⟨#[83, 80, 65, 78, 1]⟩ n4))
    (T.loads a1 [.pointer 63] <| fun (p17 : Option Addr) =>
    T.call Tryz.prog 49 [.pointer p17, .int .i64 n4, .int .i64 (15 : Int)] true [] <| T.loads a3 [.slice 102, .slice 102, .slice 78, .slice 9] <| fun (p18 : Option Addr) (l19 : Nat) (l20 : Nat) (p21 : Option Addr) (l22 : Nat) (l23 : Nat) (p24 : Option Addr) (l25 : Nat) (l26 : Nat) (p27 : Option Addr) (l28 : Nat) (l29 : Nat) =>
    T.stores a2 [.slice p18 l19 l20, .slice p21 l22 l23, .slice p24 l25 l26, .slice p27 l28 l29] <|
    T.loads a2 [.slice 102, .slice 102, .slice 78, .slice 9] <| fun (p30 : Option Addr) (l31 : Nat) (l32 : Nat) (p33 : Option Addr) (l34 : Nat) (l35 : Nat) (p36 : Option Addr) (l37 : Nat) (l38 : Nat) (p39 : Option Addr) (l40 : Nat) (l41 : Nat) =>
    T.ret (.agg #[.slice p30 l31 l32, .slice p33 l34 l35, .slice p36 l37 l38, .slice p39 l40 l41]))
    (T.again 0 [.int .i64 (IntKind.wrap .i64 (n4 + (1 : Int)))])))
  (T.loads a1 [.pointer 63] <| fun (p5 : Option Addr) =>
  T.osome p5 <| fun (a6 : Addr) =>
  T.stores (a6.add 1) [.int .i64 (5 : Int)] <|
  T.loads a1 [.pointer 63] <| fun (p7 : Option Addr) =>
  T.call Tryz.prog 50 [.pointer p7, .int .i64 (8192 : Int), .func (Fn.func 51) #[] #[.pointer (some a1)]] false [(false, [.slice 102])] <| fun (p8 : Option Addr) (l9 : Nat) (l10 : Nat) =>
  T.stores a3 [.slice p8 l9 l10] <|
  T.loads a1 [.pointer 63] <| fun (p11 : Option Addr) =>
  T.loads a3 [.slice 102] <| fun (p12 : Option Addr) (l13 : Nat) (l14 : Nat) =>
  T.sem Tryz.prog (Builtin.max_ #[3, 3] 3 #[.int .i64 (IntKind.wrap .i64 ((8192 : Int) - (l13 : Int))), .int .i64 (0 : Int)]) false [(false, [.int .i64])] <| fun (n15 : Int) =>
  T.call Tryz.prog 50 [.pointer p11, .int .i64 n15, .func (Fn.func 53) #[] #[.pointer (some a1)]] false [(false, [.slice 102])] <| fun (p16 : Option Addr) (l17 : Nat) (l18 : Nat) =>
  T.stores (a3.add 1) [.slice p16 l17 l18] <|
  T.loads a1 [.pointer 63] <| fun (p19 : Option Addr) =>
  T.loads a1 [.pointer 63] <| fun (p20 : Option Addr) =>
  T.call Tryz.prog 54 [.pointer p19, .int .i64 (8192 : Int), .func (Fn.func 55) #[.pointer p20] #[]] false [(false, [.slice 78])] <| fun (p21 : Option Addr) (l22 : Nat) (l23 : Nat) =>
  T.stores (a3.add 2) [.slice p21 l22 l23] <|
  T.new [.string ⟨#[]⟩] 9 <| fun (a24 : Addr) =>
  T.stores a24 [.string ⟨#[]⟩] <|
  T.loads a1 [.pointer 63] <| fun (p25 : Option Addr) =>
  T.call Tryz.prog 56 [.pointer p25, .int .i64 (-1 : Int), .func (Fn.func 57) #[] #[.pointer (some a1), .pointer (some a24)]] false [(false, [.slice 9])] <| fun (p26 : Option Addr) (l27 : Nat) (l28 : Nat) =>
  T.stores (a3.add 3) [.slice p26 l27 l28] <|
  T.loads a1 [.pointer 63] <| fun (p29 : Option Addr) =>
  T.osome p29 <| fun (a30 : Addr) =>
  T.loads (a30.add 2) [.pointer 59] <| fun (p31 : Option Addr) =>
  cond (/-?Option.isSome.match_1-/ match p31 with
  | some val => false
  | none => true)
   (T.loads a1 [.pointer 63] <| fun (p32 : Option Addr) =>
   T.osome p32 <| fun (a33 : Addr) =>
   T.loads (a33.add 1) [.int .i64] <| fun (n34 : Int) =>
   T.loads a1 [.pointer 63] <| fun (p35 : Option Addr) =>
   T.osome p35 <| fun (a36 : Addr) =>
   T.loads a36 [.slice 5] <| fun (p37 : Option Addr) (l38 : Nat) (l39 : Nat) =>
   cond (decide (n34 < (l38 : Int)))
    (T.loads a1 [.pointer 63] <| fun (p40 : Option Addr) =>
    T.loads a1 [.pointer 63] <| fun (p41 : Option Addr) =>
    T.osome p41 <| fun (a42 : Addr) =>
    T.loads (a42.add 1) [.int .i64] <| fun (n43 : Int) =>
    T.call Tryz.prog 49 [.pointer p40, .int .i64 n43, .int .i64 (14 : Int)] true [] <| T.stable [(a1, [.pointer p41])] <|
    T.loads a3 [.slice 102, .slice 102, .slice 78, .slice 9] <| fun (p44 : Option Addr) (l45 : Nat) (l46 : Nat) (p47 : Option Addr) (l48 : Nat) (l49 : Nat) (p50 : Option Addr) (l51 : Nat) (l52 : Nat) (p53 : Option Addr) (l54 : Nat) (l55 : Nat) =>
    T.stores a2 [.slice p44 l45 l46, .slice p47 l48 l49, .slice p50 l51 l52, .slice p53 l54 l55] <|
    T.loads a2 [.slice 102, .slice 102, .slice 78, .slice 9] <| fun (p56 : Option Addr) (l57 : Nat) (l58 : Nat) (p59 : Option Addr) (l60 : Nat) (l61 : Nat) (p62 : Option Addr) (l63 : Nat) (l64 : Nat) (p65 : Option Addr) (l66 : Nat) (l67 : Nat) =>
    T.ret (.agg #[.slice p56 l57 l58, .slice p59 l60 l61, .slice p62 l63 l64, .slice p65 l66 l67]))
    (T.loads a3 [.slice 102, .slice 102, .slice 78, .slice 9] <| fun (p40 : Option Addr) (l41 : Nat) (l42 : Nat) (p43 : Option Addr) (l44 : Nat) (l45 : Nat) (p46 : Option Addr) (l47 : Nat) (l48 : Nat) (p49 : Option Addr) (l50 : Nat) (l51 : Nat) =>
    T.stores a2 [.slice p40 l41 l42, .slice p43 l44 l45, .slice p46 l47 l48, .slice p49 l50 l51] <|
    T.loads a2 [.slice 102, .slice 102, .slice 78, .slice 9] <| fun (p52 : Option Addr) (l53 : Nat) (l54 : Nat) (p55 : Option Addr) (l56 : Nat) (l57 : Nat) (p58 : Option Addr) (l59 : Nat) (l60 : Nat) (p61 : Option Addr) (l62 : Nat) (l63 : Nat) =>
    T.ret (.agg #[.slice p52 l53 l54, .slice p55 l56 l57, .slice p58 l59 l60, .slice p61 l62 l63])))
   (T.loads a3 [.slice 102, .slice 102, .slice 78, .slice 9] <| fun (p32 : Option Addr) (l33 : Nat) (l34 : Nat) (p35 : Option Addr) (l36 : Nat) (l37 : Nat) (p38 : Option Addr) (l39 : Nat) (l40 : Nat) (p41 : Option Addr) (l42 : Nat) (l43 : Nat) =>
   T.stores a2 [.slice p32 l33 l34, .slice p35 l36 l37, .slice p38 l39 l40, .slice p41 l42 l43] <|
   T.loads a2 [.slice 102, .slice 102, .slice 78, .slice 9] <| fun (p44 : Option Addr) (l45 : Nat) (l46 : Nat) (p47 : Option Addr) (l48 : Nat) (l49 : Nat) (p50 : Option Addr) (l51 : Nat) (l52 : Nat) (p53 : Option Addr) (l54 : Nat) (l55 : Nat) =>
   T.ret (.agg #[.slice p44 l45 l46, .slice p47 l48 l49, .slice p50 l51 l52, .slice p53 l54 l55])))
theorem t_object_reader__unit_eq (p0 : Option Addr) : xfun Tryz.prog [] Tryz.f20 [.pointer p0] = t_object_reader__unit p0 := by kernel_rfl

/-- The tree of 7. -/
def t_object_Read (pp00 : Option Addr) (ll00 cc00 : Nat) : T :=
 T.new [.slice none 0 0, .slice none 0 0, .slice none 0 0, .slice none 0 0] 28 <| fun (a1 : Addr) =>
 cond (decide ((ll00 : Int) > (1048576 : Int)))
  (T.new [.int .i64 (0 : Int), .int .i64 (3 : Int)] 59 <| fun (a2 : Addr) =>
  T.stores a1 [.slice none 0 0, .slice none 0 0, .slice none 0 0, .slice none 0 0] <|
  T.loads a1 [.slice 102, .slice 102, .slice 78, .slice 9] <| fun (p3 : Option Addr) (l4 : Nat) (l5 : Nat) (p6 : Option Addr) (l7 : Nat) (l8 : Nat) (p9 : Option Addr) (l10 : Nat) (l11 : Nat) (p12 : Option Addr) (l13 : Nat) (l14 : Nat) =>
  T.ret (.tuple #[.agg #[.slice p3 l4 l5, .slice p6 l7 l8, .slice p9 l10 l11, .slice p12 l13 l14], .iface 57 (.pointer (some a2))]))
  (T.sem Tryz.prog (Instr.makeMap 61 none) false [(false, [.map 0 0])] <| fun (r2 : Option Nat) =>
  T.new [.slice pp00 ll00 cc00, .int .i64 (0 : Int), .pointer none, .map r2] 63 <| fun (a3 : Addr) =>
  T.call Tryz.prog 20 [.pointer (some a3)] false [(true, [.slice 102, .slice 102, .slice 78, .slice 9])] <| fun (p4 : Option Addr) (l5 : Nat) (l6 : Nat) (p7 : Option Addr) (l8 : Nat) (l9 : Nat) (p10 : Option Addr) (l11 : Nat) (l12 : Nat) (p13 : Option Addr) (l14 : Nat) (l15 : Nat) =>
  T.new [.slice none 0 0, .slice none 0 0, .slice none 0 0, .slice none 0 0] 28 <| fun (a16 : Addr) =>
  T.stores a16 [.slice p4 l5 l6, .slice p7 l8 l9, .slice p10 l11 l12, .slice p13 l14 l15] <|
  T.loads (a3.add 2) [.pointer 59] <| fun (p17 : Option Addr) =>
  cond (!(/-?Option.isSome.match_1-/ match p17 with
  | some val => false
  | none => true))
   (T.loads (a3.add 2) [.pointer 59] <| fun (p18 : Option Addr) =>
   T.stores a1 [.slice none 0 0, .slice none 0 0, .slice none 0 0, .slice none 0 0] <|
   T.stable [((a3.add 2), [.pointer p18])] <|
   T.loads a1 [.slice 102, .slice 102, .slice 78, .slice 9] <| fun (p19 : Option Addr) (l20 : Nat) (l21 : Nat) (p22 : Option Addr) (l23 : Nat) (l24 : Nat) (p25 : Option Addr) (l26 : Nat) (l27 : Nat) (p28 : Option Addr) (l29 : Nat) (l30 : Nat) =>
   T.ret (.tuple #[.agg #[.slice p19 l20 l21, .slice p22 l23 l24, .slice p25 l26 l27, .slice p28 l29 l30], .iface 57 (.pointer p18)]))
   (T.loads a16 [.slice 102, .slice 102, .slice 78, .slice 9] <| fun (p18 : Option Addr) (l19 : Nat) (l20 : Nat) (p21 : Option Addr) (l22 : Nat) (l23 : Nat) (p24 : Option Addr) (l25 : Nat) (l26 : Nat) (p27 : Option Addr) (l28 : Nat) (l29 : Nat) =>
   T.stores a1 [.slice p18 l19 l20, .slice p21 l22 l23, .slice p24 l25 l26, .slice p27 l28 l29] <|
   T.loads a1 [.slice 102, .slice 102, .slice 78, .slice 9] <| fun (p30 : Option Addr) (l31 : Nat) (l32 : Nat) (p33 : Option Addr) (l34 : Nat) (l35 : Nat) (p36 : Option Addr) (l37 : Nat) (l38 : Nat) (p39 : Option Addr) (l40 : Nat) (l41 : Nat) =>
   T.ret (.tuple #[.agg #[.slice p30 l31 l32, .slice p33 l34 l35, .slice p36 l37 l38, .slice p39 l40 l41], .nilIface])))
theorem t_object_Read_eq (pp00 : Option Addr) (ll00 cc00 : Nat) : xfun Tryz.prog [] Tryz.f6 [.slice pp00 ll00 cc00] = t_object_Read pp00 ll00 cc00 := by kernel_rfl

end Go.Sx
