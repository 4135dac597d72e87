/- Trees of functions, each checked by the kernel against the code. No condition. -/
import Derived.Test.YtpbjlnlekobodaaDoorSxF
import Derived.Test.YtpbjlnlekobodaaDoorProg
import Derived.KernelRfl
set_option linter.unusedVariables false
set_option linter.unusedSimpArgs false
set_option linter.deprecated false
set_option maxRecDepth 100000
namespace Go.Sx
open Go.Proofs
/-- The tree of 85. -/
def t_expr_made (r0 : Option Nat) (n1 : Int) : T :=
 T.new [.slice none 0 0, .int .u32 (0 : Int)] 69 <| fun (a2 : Addr) =>
 T.new [.slice none 0 0, .int .u32 (0 : Int)] 69 <| fun (a3 : Addr) =>
 T.stores a3 [.slice none 0 0, .int .u32 n1] <|
 T.call Tryd.prog 101 [.map r0] false [(false, [.func #[32] #[] false])] <| fun (v4 : Value) =>
 T.call Tryd.prog 100 [v4] false [(false, [.slice 9])] <| fun (p5 : Option Addr) (l6 : Nat) (l7 : Nat) =>
 T.loop [(false, [.int .i64])] [.int .i64 (0 : Int)] <| fun (n8 : Int) =>
 cond (decide (n8 < (l6 : Int)))
  (T.need (((0 : Int) ≤ n8) ∧ (n8 < (l6 : Int))) <|
  T.osome p5 <| fun (a9 : Addr) =>
  T.loads (a9.add ((Int.toNat n8) * 1)) [.string] <| fun (s10 : ByteArray) =>
  T.sem Tryd.prog (Instr.lookup 78 (.map r0) (.string s10) false) false [(false, [.int .u32])] <| fun (n11 : Int) =>
  cond (n11 != (0 : Int))
   (T.loads a3 [.slice 80] <| fun (p12 : Option Addr) (l13 : Nat) (l14 : Nat) =>
   T.sem Tryd.prog (Instr.lookup 78 (.map r0) (.string s10) false) false [(false, [.int .u32])] <| fun (n15 : Int) =>
   T.sem Tryd.prog (Instr.buildSlice 67 1 #[(0, .agg #[.string s10, .int .u32 n15])]) false [(false, [.slice 0])] <| fun (p16 : Option Addr) (l17 : Nat) (l18 : Nat) =>
   T.sem Tryd.prog (Builtin.append_ #[67, 67] 67 #[.slice p12 l13 l14, .slice p16 l17 l18]) false [(false, [.slice 0])] <| fun (p19 : Option Addr) (l20 : Nat) (l21 : Nat) =>
   T.stores a3 [.slice p19 l20 l21] <|
   T.again 0 [.int .i64 (IntKind.wrap .i64 (n8 + (1 : Int)))])
   (T.again 0 [.int .i64 (IntKind.wrap .i64 (n8 + (1 : Int)))]))
  (T.loads a3 [.slice 80, .int .u32] <| fun (p9 : Option Addr) (l10 : Nat) (l11 : Nat) (n12 : Int) =>
  T.stores a2 [.slice p9 l10 l11, .int .u32 n12] <|
  T.loads a2 [.slice 80, .int .u32] <| fun (p13 : Option Addr) (l14 : Nat) (l15 : Nat) (n16 : Int) =>
  T.ret (.agg #[.slice p13 l14 l15, .int .u32 n16]))
theorem t_expr_made_eq (r0 : Option Nat) (n1 : Int) : xfun Tryd.prog [] Tryd.f85 [.map r0, .int .u32 n1] = t_expr_made r0 n1 := by kernel_rfl

/-- The tree of 52. -/
def t_expr_Add (pp00 : Option Addr) (ll00 cc00 : Nat) (n1_0 : Int) (pp10 : Option Addr) (ll10 cc10 : Nat) (n1_1 : Int) : T :=
 T.new [.slice pp00 ll00 cc00, .int .u32 n1_0] 69 <| fun (a2 : Addr) =>
 T.new [.slice pp10 ll10 cc10, .int .u32 n1_1] 69 <| fun (a3 : Addr) =>
 T.new [.slice none 0 0, .int .u32 (0 : Int)] 69 <| fun (a4 : Addr) =>
 T.sem Tryd.prog (Instr.makeMap 78 none) false [(false, [.map 0 0])] <| fun (r5 : Option Nat) =>
 T.loads a2 [.slice 80] <| fun (p6 : Option Addr) (l7 : Nat) (l8 : Nat) =>
 T.loads a3 [.slice 80] <| fun (p9 : Option Addr) (l10 : Nat) (l11 : Nat) =>
 T.sem Tryd.prog (Instr.buildSlice 87 2 #[(0, .slice p6 l7 l8), (1, .slice p9 l10 l11)]) false [(false, [.slice 0])] <| fun (p12 : Option Addr) (l13 : Nat) (l14 : Nat) =>
 T.loop [(false, [.int .i64])] [.int .i64 (0 : Int)] <| fun (n15 : Int) =>
 cond (decide (n15 < (l13 : Int)))
  (T.need (((0 : Int) ≤ n15) ∧ (n15 < (l13 : Int))) <|
  T.osome p12 <| fun (a16 : Addr) =>
  T.loads (a16.add ((Int.toNat n15) * 1)) [.slice 80] <| fun (p17 : Option Addr) (l18 : Nat) (l19 : Nat) =>
  T.loop [(false, [.int .i64])] [.int .i64 (0 : Int)] <| fun (n20 : Int) =>
  cond (decide (n20 < (l18 : Int)))
   (T.need (((0 : Int) ≤ n20) ∧ (n20 < (l18 : Int))) <|
   T.osome p17 <| fun (a21 : Addr) =>
   T.loads (a21.add ((Int.toNat n20) * 2)) [.string, .int .u32] <| fun (s22 : ByteArray) (n23 : Int) =>
   T.new [.string ⟨#[]⟩, .int .u32 (0 : Int)] 80 <| fun (a24 : Addr) =>
   T.stores a24 [.string s22, .int .u32 n23] <|
   T.loads a24 [.string] <| fun (s25 : ByteArray) =>
   T.sem Tryd.prog (Instr.lookup 78 (.map r5) (.string s25) false) false [(false, [.int .u32])] <| fun (n26 : Int) =>
   T.loads (a24.add 1) [.int .u32] <| fun (n27 : Int) =>
   T.semU Tryd.prog (Instr.mapUpdate 78 (.map r5) (.string s25) (.int .u32 (IntKind.wrap .u32 (n26 + n27)))) <|
   T.again 1 [.int .i64 (IntKind.wrap .i64 (n20 + (1 : Int)))])
   (T.again 0 [.int .i64 (IntKind.wrap .i64 (n15 + (1 : Int)))]))
  (T.loads (a2.add 1) [.int .u32] <| fun (n16 : Int) =>
  T.loads (a3.add 1) [.int .u32] <| fun (n17 : Int) =>
  T.call Tryd.prog 85 [.map r5, .int .u32 (IntKind.wrap .u32 (n16 + n17))] false [(true, [.slice 80, .int .u32])] <| fun (p18 : Option Addr) (l19 : Nat) (l20 : Nat) (n21 : Int) =>
  T.stores a4 [.slice p18 l19 l20, .int .u32 n21] <|
  T.loads a4 [.slice 80, .int .u32] <| fun (p22 : Option Addr) (l23 : Nat) (l24 : Nat) (n25 : Int) =>
  T.ret (.agg #[.slice p22 l23 l24, .int .u32 n25]))
theorem t_expr_Add_eq (pp00 : Option Addr) (ll00 cc00 : Nat) (n1_0 : Int) (pp10 : Option Addr) (ll10 cc10 : Nat) (n1_1 : Int) : xfun Tryd.prog [] Tryd.f52 [.agg #[.slice pp00 ll00 cc00, .int .u32 n1_0], .agg #[.slice pp10 ll10 cc10, .int .u32 n1_1]] = t_expr_Add pp00 ll00 cc00 n1_0 pp10 ll10 cc10 n1_1 := by kernel_rfl

/-- The tree of 53. -/
def t_expr_Times (pp00 : Option Addr) (ll00 cc00 : Nat) (n1_0 : Int) (n1 : Int) : T :=
 T.new [.slice pp00 ll00 cc00, .int .u32 n1_0] 69 <| fun (a2 : Addr) =>
 T.new [.slice none 0 0, .int .u32 (0 : Int)] 69 <| fun (a3 : Addr) =>
 T.sem Tryd.prog (Instr.makeMap 78 none) false [(false, [.map 0 0])] <| fun (r4 : Option Nat) =>
 T.loads a2 [.slice 80] <| fun (p5 : Option Addr) (l6 : Nat) (l7 : Nat) =>
 T.loop [(false, [.int .i64])] [.int .i64 (0 : Int)] <| fun (n8 : Int) =>
 cond (decide (n8 < (l6 : Int)))
  (T.need (((0 : Int) ≤ n8) ∧ (n8 < (l6 : Int))) <|
  T.osome p5 <| fun (a9 : Addr) =>
  T.loads (a9.add ((Int.toNat n8) * 2)) [.string, .int .u32] <| fun (s10 : ByteArray) (n11 : Int) =>
  T.new [.string ⟨#[]⟩, .int .u32 (0 : Int)] 80 <| fun (a12 : Addr) =>
  T.stores a12 [.string s10, .int .u32 n11] <|
  T.loads a12 [.string] <| fun (s13 : ByteArray) =>
  T.sem Tryd.prog (Instr.lookup 78 (.map r4) (.string s13) false) false [(false, [.int .u32])] <| fun (n14 : Int) =>
  T.loads (a12.add 1) [.int .u32] <| fun (n15 : Int) =>
  T.semU Tryd.prog (Instr.mapUpdate 78 (.map r4) (.string s13) (.int .u32 (IntKind.wrap .u32 (n14 + (IntKind.wrap .u32 (n15 * n1)))))) <|
  T.again 0 [.int .i64 (IntKind.wrap .i64 (n8 + (1 : Int)))])
  (T.loads (a2.add 1) [.int .u32] <| fun (n9 : Int) =>
  T.call Tryd.prog 85 [.map r4, .int .u32 (IntKind.wrap .u32 (n9 * n1))] false [(true, [.slice 80, .int .u32])] <| fun (p10 : Option Addr) (l11 : Nat) (l12 : Nat) (n13 : Int) =>
  T.stores a3 [.slice p10 l11 l12, .int .u32 n13] <|
  T.loads a3 [.slice 80, .int .u32] <| fun (p14 : Option Addr) (l15 : Nat) (l16 : Nat) (n17 : Int) =>
  T.ret (.agg #[.slice p14 l15 l16, .int .u32 n17]))
theorem t_expr_Times_eq (pp00 : Option Addr) (ll00 cc00 : Nat) (n1_0 : Int) (n1 : Int) : xfun Tryd.prog [] Tryd.f53 [.agg #[.slice pp00 ll00 cc00, .int .u32 n1_0], .int .u32 n1] = t_expr_Times pp00 ll00 cc00 n1_0 n1 := by kernel_rfl

/-- The tree of 51. -/
def t_expr_Value (pp00 : Option Addr) (ll00 cc00 : Nat) (n1_0 : Int) (r1 : Option Nat) : T :=
 T.new [.slice pp00 ll00 cc00, .int .u32 n1_0] 69 <| fun (a2 : Addr) =>
 T.loads (a2.add 1) [.int .u32] <| fun (n3 : Int) =>
 T.loads a2 [.slice 80] <| fun (p4 : Option Addr) (l5 : Nat) (l6 : Nat) =>
 T.loop [(false, [.int .u32]), (false, [.bool]), (false, [.int .u32]), (false, [.int .i64])] [.int .u32 (0 : Int), .bool false, .int .u32 n3, .int .i64 (0 : Int)] <| fun (n7 : Int) (b8 : Bool) (n9 : Int) (n10 : Int) =>
 cond (decide (n10 < (l5 : Int)))
  (T.need (((0 : Int) ≤ n10) ∧ (n10 < (l5 : Int))) <|
  T.osome p4 <| fun (a11 : Addr) =>
  T.loads (a11.add ((Int.toNat n10) * 2)) [.string, .int .u32] <| fun (s12 : ByteArray) (n13 : Int) =>
  T.new [.string ⟨#[]⟩, .int .u32 (0 : Int)] 80 <| fun (a14 : Addr) =>
  T.stores a14 [.string s12, .int .u32 n13] <|
  T.loads a14 [.string] <| fun (s15 : ByteArray) =>
  T.sem Tryd.prog (Instr.lookup 78 (.map r1) (.string s15) true) true [(false, [.int .u32]), (false, [.bool])] <| fun (n16 : Int) (b17 : Bool) =>
  cond (!b17)
   (T.ret (.tuple #[.int .u32 (0 : Int), .bool false]))
   (T.loads (a14.add 1) [.int .u32] <| fun (n18 : Int) =>
   T.again 0 [.int .u32 n7, .bool b8, .int .u32 (IntKind.wrap .u32 (n9 + (IntKind.wrap .u32 (n18 * n16)))), .int .i64 (IntKind.wrap .i64 (n10 + (1 : Int)))]))
  (T.ret (.tuple #[.int .u32 n9, .bool true]))
theorem t_expr_Value_eq (pp00 : Option Addr) (ll00 cc00 : Nat) (n1_0 : Int) (r1 : Option Nat) : xfun Tryd.prog [] Tryd.f51 [.agg #[.slice pp00 ll00 cc00, .int .u32 n1_0], .map r1] = t_expr_Value pp00 ll00 cc00 n1_0 r1 := by kernel_rfl

/-- The tree of 50. -/
def t_spandrelref4_Right (pp00 : Option Addr) (ll00 cc00 : Nat) (n1_0 : Int) : T :=
 T.new [.slice pp00 ll00 cc00, .int .u32 n1_0] 69 <| fun (a1 : Addr) =>
 T.loop [(false, [.bool]), (false, [.int .i64])] [.bool false, .int .i64 (0 : Int)] <| fun (b2 : Bool) (n3 : Int) =>
 T.loads a1 [.slice 80] <| fun (p4 : Option Addr) (l5 : Nat) (l6 : Nat) =>
 cond (decide (n3 < (l5 : Int)))
  (T.loads a1 [.slice 80] <| fun (p7 : Option Addr) (l8 : Nat) (l9 : Nat) =>
  T.need (((0 : Int) ≤ n3) ∧ (n3 < (l8 : Int))) <|
  T.osome p7 <| fun (a10 : Addr) =>
  T.loads (a10.add ((Int.toNat n3) * 2)) [.string] <| fun (s11 : ByteArray) =>
  T.call Tryd.prog 32 [.string s11] false [(false, [.bool])] <| fun (b12 : Bool) =>
  T.stable [(a1, [.slice p7 l8 l9])] <|
  cond (!b12)
   (T.ret (.bool false))
   (T.loads a1 [.slice 80] <| fun (p13 : Option Addr) (l14 : Nat) (l15 : Nat) =>
   T.need (((0 : Int) ≤ n3) ∧ (n3 < (l14 : Int))) <|
   T.osome p13 <| fun (a16 : Addr) =>
   T.loads ((a16.add ((Int.toNat n3) * 2)).add 1) [.int .u32] <| fun (n17 : Int) =>
   cond (n17 == (0 : Int))
    (T.ret (.bool false))
    (cond (decide (n3 > (0 : Int)))
     (T.loads a1 [.slice 80] <| fun (p18 : Option Addr) (l19 : Nat) (l20 : Nat) =>
     T.need (((0 : Int) ≤ n3) ∧ (n3 < (l19 : Int))) <|
     T.osome p18 <| fun (a21 : Addr) =>
     T.loads (a21.add ((Int.toNat n3) * 2)) [.string] <| fun (s22 : ByteArray) =>
     T.loads a1 [.slice 80] <| fun (p23 : Option Addr) (l24 : Nat) (l25 : Nat) =>
     T.need (((0 : Int) ≤ (IntKind.wrap .i64 (n3 - (1 : Int)))) ∧ ((IntKind.wrap .i64 (n3 - (1 : Int))) < (l24 : Int))) <|
     T.osome p23 <| fun (a26 : Addr) =>
     T.loads (a26.add ((Int.toNat (IntKind.wrap .i64 (n3 - (1 : Int)))) * 2)) [.string] <| fun (s27 : ByteArray) =>
     cond ((Op.bytesLess (ByteArray.toList s22) (ByteArray.toList s27)) || ((ByteArray.toList s22) == (ByteArray.toList s27)))
      (T.ret (.bool false))
      (T.again 0 [.bool b2, .int .i64 (IntKind.wrap .i64 (n3 + (1 : Int)))]))
     (T.again 0 [.bool b2, .int .i64 (IntKind.wrap .i64 (n3 + (1 : Int)))]))))
  (T.ret (.bool true))
theorem t_spandrelref4_Right_eq (pp00 : Option Addr) (ll00 cc00 : Nat) (n1_0 : Int) : xfun Tryd.prog [] Tryd.f50 [.agg #[.slice pp00 ll00 cc00, .int .u32 n1_0]] = t_spandrelref4_Right pp00 ll00 cc00 n1_0 := by kernel_rfl

/-- The tree of 63. -/
def t_expr_Right (pp00 : Option Addr) (ll00 cc00 : Nat) (n1_0 : Int) : T :=
 T.new [.slice pp00 ll00 cc00, .int .u32 n1_0] 69 <| fun (a1 : Addr) =>
 T.loads a1 [.slice 80] <| fun (p2 : Option Addr) (l3 : Nat) (l4 : Nat) =>
 T.loop [(false, [.bool]), (false, [.int .i64])] [.bool false, .int .i64 (0 : Int)] <| fun (b5 : Bool) (n6 : Int) =>
 cond (decide (n6 < (l3 : Int)))
  (T.need (((0 : Int) ≤ n6) ∧ (n6 < (l3 : Int))) <|
  T.osome p2 <| fun (a7 : Addr) =>
  T.loads (a7.add ((Int.toNat n6) * 2)) [.string, .int .u32] <| fun (s8 : ByteArray) (n9 : Int) =>
  T.new [.string ⟨#[]⟩, .int .u32 (0 : Int)] 80 <| fun (a10 : Addr) =>
  T.stores a10 [.string s8, .int .u32 n9] <|
  T.loads (a10.add 1) [.int .u32] <| fun (n11 : Int) =>
  cond (n11 == (0 : Int))
   (T.ret (.bool false))
   (T.loads a10 [.string] <| fun (s12 : ByteArray) =>
   T.call Tryd.prog 30 [.string s12] false [(false, [.bool])] <| fun (b13 : Bool) =>
   T.stable [((a10.add 1), [.int .u32 n11])] <|
   cond (!b13)
    (T.ret (.bool false))
    (cond (decide (n6 > (0 : Int)))
     (T.loads a10 [.string] <| fun (s14 : ByteArray) =>
     T.loads a1 [.slice 80] <| fun (p15 : Option Addr) (l16 : Nat) (l17 : Nat) =>
     T.need (((0 : Int) ≤ (IntKind.wrap .i64 (n6 - (1 : Int)))) ∧ ((IntKind.wrap .i64 (n6 - (1 : Int))) < (l16 : Int))) <|
     T.osome p15 <| fun (a18 : Addr) =>
     T.loads (a18.add ((Int.toNat (IntKind.wrap .i64 (n6 - (1 : Int)))) * 2)) [.string] <| fun (s19 : ByteArray) =>
     cond ((Op.bytesLess (ByteArray.toList s14) (ByteArray.toList s19)) || ((ByteArray.toList s14) == (ByteArray.toList s19)))
      (T.ret (.bool false))
      (T.again 0 [.bool b5, .int .i64 (IntKind.wrap .i64 (n6 + (1 : Int)))]))
     (T.again 0 [.bool b5, .int .i64 (IntKind.wrap .i64 (n6 + (1 : Int)))]))))
  (T.ret (.bool true))
theorem t_expr_Right_eq (pp00 : Option Addr) (ll00 cc00 : Nat) (n1_0 : Int) : xfun Tryd.prog [] Tryd.f63 [.agg #[.slice pp00 ll00 cc00, .int .u32 n1_0]] = t_expr_Right pp00 ll00 cc00 n1_0 := by kernel_rfl

/-- The tree of 64. -/
def t_expr_Same (pp00 : Option Addr) (ll00 cc00 : Nat) (n1_0 : Int) (pp10 : Option Addr) (ll10 cc10 : Nat) (n1_1 : Int) : T :=
 T.new [.slice pp00 ll00 cc00, .int .u32 n1_0] 69 <| fun (a2 : Addr) =>
 T.new [.slice pp10 ll10 cc10, .int .u32 n1_1] 69 <| fun (a3 : Addr) =>
 T.loads (a2.add 1) [.int .u32] <| fun (n4 : Int) =>
 T.loads (a3.add 1) [.int .u32] <| fun (n5 : Int) =>
 cond (n4 == n5)
  (T.loads a2 [.slice 80] <| fun (p6 : Option Addr) (l7 : Nat) (l8 : Nat) =>
  T.loads a3 [.slice 80] <| fun (p9 : Option Addr) (l10 : Nat) (l11 : Nat) =>
  T.call Tryd.prog 90 [.slice p6 l7 l8, .slice p9 l10 l11] false [(false, [.bool])] <| fun (b12 : Bool) =>
  T.ret (.bool b12))
  (T.ret (.bool false))
theorem t_expr_Same_eq (pp00 : Option Addr) (ll00 cc00 : Nat) (n1_0 : Int) (pp10 : Option Addr) (ll10 cc10 : Nat) (n1_1 : Int) : xfun Tryd.prog [] Tryd.f64 [.agg #[.slice pp00 ll00 cc00, .int .u32 n1_0], .agg #[.slice pp10 ll10 cc10, .int .u32 n1_1]] = t_expr_Same pp00 ll00 cc00 n1_0 pp10 ll10 cc10 n1_1 := by kernel_rfl

/-- The tree of 48. -/
def t_spandrelref4_Same (pp00 : Option Addr) (ll00 cc00 : Nat) (n1_0 : Int) (pp10 : Option Addr) (ll10 cc10 : Nat) (n1_1 : Int) : T :=
 T.new [.slice pp00 ll00 cc00, .int .u32 n1_0] 69 <| fun (a2 : Addr) =>
 T.new [.slice pp10 ll10 cc10, .int .u32 n1_1] 69 <| fun (a3 : Addr) =>
 T.loads (a2.add 1) [.int .u32] <| fun (n4 : Int) =>
 T.loads (a3.add 1) [.int .u32] <| fun (n5 : Int) =>
 cond (n4 != n5)
  (T.ret (.bool false))
  (T.loads a2 [.slice 80] <| fun (p6 : Option Addr) (l7 : Nat) (l8 : Nat) =>
  T.loads a3 [.slice 80] <| fun (p9 : Option Addr) (l10 : Nat) (l11 : Nat) =>
  cond ((l7 : Int) != (l10 : Int))
   (T.ret (.bool false))
   (T.loop [(false, [.bool]), (false, [.int .i64])] [.bool false, .int .i64 (0 : Int)] <| fun (b12 : Bool) (n13 : Int) =>
   T.loads a2 [.slice 80] <| fun (p14 : Option Addr) (l15 : Nat) (l16 : Nat) =>
   cond (decide (n13 < (l15 : Int)))
    (T.loads a2 [.slice 80] <| fun (p17 : Option Addr) (l18 : Nat) (l19 : Nat) =>
    T.need (((0 : Int) ≤ n13) ∧ (n13 < (l18 : Int))) <|
    T.osome p17 <| fun (a20 : Addr) =>
    T.loads (a20.add ((Int.toNat n13) * 2)) [.string, .int .u32] <| fun (s21 : ByteArray) (n22 : Int) =>
    T.loads a3 [.slice 80] <| fun (p23 : Option Addr) (l24 : Nat) (l25 : Nat) =>
    T.need (((0 : Int) ≤ n13) ∧ (n13 < (l24 : Int))) <|
    T.osome p23 <| fun (a26 : Addr) =>
    T.loads (a26.add ((Int.toNat n13) * 2)) [.string, .int .u32] <| fun (s27 : ByteArray) (n28 : Int) =>
    T.sem Tryd.prog (Sx.cmpS (BinOp.neq) 80 (Operand.tmp 31) (Operand.tmp 36) (.agg #[.string s21, .int .u32 n22]) (.agg #[.string s27, .int .u32 n28])) false [(false, [.bool])] <| fun (b29 : Bool) =>
    T.stable [(a3, [.slice p23 l24 l25]), (a2, [.slice p17 l18 l19])] <|
    cond b29
     (T.ret (.bool false))
     (T.again 0 [.bool b12, .int .i64 (IntKind.wrap .i64 (n13 + (1 : Int)))]))
    (T.ret (.bool true))))
theorem t_spandrelref4_Same_eq (pp00 : Option Addr) (ll00 cc00 : Nat) (n1_0 : Int) (pp10 : Option Addr) (ll10 cc10 : Nat) (n1_1 : Int) : xfun Tryd.prog [] Tryd.f48 [.agg #[.slice pp00 ll00 cc00, .int .u32 n1_0], .agg #[.slice pp10 ll10 cc10, .int .u32 n1_1]] = t_spandrelref4_Same pp00 ll00 cc00 n1_0 pp10 ll10 cc10 n1_1 := by kernel_rfl

/-- The tree of 98. -/
def t_spandrelref4_Times (pp00 : Option Addr) (ll00 cc00 : Nat) (n1_0 : Int) (n1 : Int) : T :=
 T.new [.slice pp00 ll00 cc00, .int .u32 n1_0] 69 <| fun (a2 : Addr) =>
 T.new [.slice none 0 0, .int .u32 (0 : Int)] 69 <| fun (a3 : Addr) =>
 T.loads (a2.add 1) [.int .u32] <| fun (n4 : Int) =>
 T.new [.slice none 0 0, .int .u32 (0 : Int)] 69 <| fun (a5 : Addr) =>
 T.stores a5 [.slice none 0 0, .int .u32 (IntKind.wrap .u32 (n4 * n1))] <|
 T.loop [(false, [.int .i64])] [.int .i64 (0 : Int)] <| fun (n6 : Int) =>
 T.loads a2 [.slice 80] <| fun (p7 : Option Addr) (l8 : Nat) (l9 : Nat) =>
 cond (decide (n6 < (l8 : Int)))
  (T.loads a2 [.slice 80] <| fun (p10 : Option Addr) (l11 : Nat) (l12 : Nat) =>
  T.need (((0 : Int) ≤ n6) ∧ (n6 < (l11 : Int))) <|
  T.osome p10 <| fun (a13 : Addr) =>
  T.loads ((a13.add ((Int.toNat n6) * 2)).add 1) [.int .u32] <| fun (n14 : Int) =>
  cond ((IntKind.wrap .u32 (n14 * n1)) != (0 : Int))
   (T.loads a5 [.slice 80] <| fun (p15 : Option Addr) (l16 : Nat) (l17 : Nat) =>
   T.loads a2 [.slice 80] <| fun (p18 : Option Addr) (l19 : Nat) (l20 : Nat) =>
   T.need (((0 : Int) ≤ n6) ∧ (n6 < (l19 : Int))) <|
   T.osome p18 <| fun (a21 : Addr) =>
   T.loads (a21.add ((Int.toNat n6) * 2)) [.string] <| fun (s22 : ByteArray) =>
   T.sem Tryd.prog (Instr.buildSlice 67 1 #[(0, .agg #[.string s22, .int .u32 (IntKind.wrap .u32 (n14 * n1))])]) false [(false, [.slice 0])] <| fun (p23 : Option Addr) (l24 : Nat) (l25 : Nat) =>
   T.stable [((a21.add ((Int.toNat n6) * 2)), [.string s22]), (a2, [.slice p18 l19 l20]), (a5, [.slice p15 l16 l17])] <|
   T.sem Tryd.prog (Builtin.append_ #[67, 67] 67 #[.slice p15 l16 l17, .slice p23 l24 l25]) false [(false, [.slice 0])] <| fun (p26 : Option Addr) (l27 : Nat) (l28 : Nat) =>
   T.stable [((a21.add ((Int.toNat n6) * 2)), [.string s22]), (a2, [.slice p18 l19 l20])] <|
   T.stores a5 [.slice p26 l27 l28] <|
   T.again 0 [.int .i64 (IntKind.wrap .i64 (n6 + (1 : Int)))])
   (T.again 0 [.int .i64 (IntKind.wrap .i64 (n6 + (1 : Int)))]))
  (T.loads a5 [.slice 80, .int .u32] <| fun (p10 : Option Addr) (l11 : Nat) (l12 : Nat) (n13 : Int) =>
  T.stores a3 [.slice p10 l11 l12, .int .u32 n13] <|
  T.loads a3 [.slice 80, .int .u32] <| fun (p14 : Option Addr) (l15 : Nat) (l16 : Nat) (n17 : Int) =>
  T.ret (.agg #[.slice p14 l15 l16, .int .u32 n17]))
theorem t_spandrelref4_Times_eq (pp00 : Option Addr) (ll00 cc00 : Nat) (n1_0 : Int) (n1 : Int) : xfun Tryd.prog [] Tryd.f98 [.agg #[.slice pp00 ll00 cc00, .int .u32 n1_0], .int .u32 n1] = t_spandrelref4_Times pp00 ll00 cc00 n1_0 n1 := by kernel_rfl

/-- The tree of 56. -/
def t_expr_Named (s0 : ByteArray) : T :=
 T.new [.slice none 0 0, .int .u32 (0 : Int)] 69 <| fun (a1 : Addr) =>
 T.sem Tryd.prog (Instr.buildSlice 67 1 #[(0, .agg #[.string s0, .int .u32 (1 : Int)])]) false [(false, [.slice 0])] <| fun (p2 : Option Addr) (l3 : Nat) (l4 : Nat) =>
 T.stores a1 [.slice p2 l3 l4, .int .u32 (0 : Int)] <|
 T.loads a1 [.slice 80, .int .u32] <| fun (p5 : Option Addr) (l6 : Nat) (l7 : Nat) (n8 : Int) =>
 T.ret (.agg #[.slice p5 l6 l7, .int .u32 n8])
theorem t_expr_Named_eq (s0 : ByteArray) : xfun Tryd.prog [] Tryd.f56 [.string s0] = t_expr_Named s0 := by kernel_rfl

/-- The tree of 62. -/
def t_expr_Of (n0 : Int) : T :=
 T.new [.slice none 0 0, .int .u32 (0 : Int)] 69 <| fun (a1 : Addr) =>
 T.stores a1 [.slice none 0 0, .int .u32 n0] <|
 T.loads a1 [.slice 80, .int .u32] <| fun (p2 : Option Addr) (l3 : Nat) (l4 : Nat) (n5 : Int) =>
 T.ret (.agg #[.slice p2 l3 l4, .int .u32 n5])
theorem t_expr_Of_eq (n0 : Int) : xfun Tryd.prog [] Tryd.f62 [.int .u32 n0] = t_expr_Of n0 := by kernel_rfl

/-- The tree of 90. -/
def t_slices_Equal___api_Term_api_Term_ (pp00 : Option Addr) (ll00 cc00 : Nat) (pp10 : Option Addr) (ll10 cc10 : Nat) : T :=
 cond ((ll00 : Int) != (ll10 : Int))
  (T.ret (.bool false))
  (T.loop [(false, [.bool]), (false, [.int .i64])] [.bool false, .int .i64 (0 : Int)] <| fun (b2 : Bool) (n3 : Int) =>
  cond (decide (n3 < (ll00 : Int)))
   (T.need (((0 : Int) ≤ n3) ∧ (n3 < (ll00 : Int))) <|
   T.osome pp00 <| fun (a4 : Addr) =>
   T.loads (a4.add ((Int.toNat n3) * 2)) [.string, .int .u32] <| fun (s5 : ByteArray) (n6 : Int) =>
   T.need (((0 : Int) ≤ n3) ∧ (n3 < (ll10 : Int))) <|
   T.osome pp10 <| fun (a7 : Addr) =>
   T.loads (a7.add ((Int.toNat n3) * 2)) [.string, .int .u32] <| fun (s8 : ByteArray) (n9 : Int) =>
   T.sem Tryd.prog (Sx.cmpS (BinOp.neq) 80 (Operand.tmp 19) (Operand.tmp 23) (.agg #[.string s5, .int .u32 n6]) (.agg #[.string s8, .int .u32 n9])) false [(false, [.bool])] <| fun (b10 : Bool) =>
   cond b10
    (T.ret (.bool false))
    (T.again 0 [.bool b2, .int .i64 (IntKind.wrap .i64 (n3 + (1 : Int)))]))
   (T.ret (.bool true)))
theorem t_slices_Equal___api_Term_api_Term__eq (pp00 : Option Addr) (ll00 cc00 : Nat) (pp10 : Option Addr) (ll10 cc10 : Nat) : xfun Tryd.prog [] Tryd.f90 [.slice pp00 ll00 cc00, .slice pp10 ll10 cc10] = t_slices_Equal___api_Term_api_Term_ pp00 ll00 cc00 pp10 ll10 cc10 := by kernel_rfl

/-- The tree of 79. -/
def t_expr_parser__sign (p0 : Option Addr) (s1 : ByteArray) : T :=
 T.osome p0 <| fun (a2 : Addr) =>
 T.loads (a2.add 2) [.int .i64] <| fun (n3 : Int) =>
 cond (n3 != (0 : Int))
  (T.ret (.bool false))
  (T.osome p0 <| fun (a4 : Addr) =>
  T.loads a4 [.slice 35] <| fun (p5 : Option Addr) (l6 : Nat) (l7 : Nat) =>
  cond ((l6 : Int) == (0 : Int))
   (T.ret (.bool false))
   (T.osome p0 <| fun (a8 : Addr) =>
   T.loads a8 [.slice 35] <| fun (p9 : Option Addr) (l10 : Nat) (l11 : Nat) =>
   T.need (((0 : Int) ≤ (0 : Int)) ∧ ((0 : Int) < (l10 : Int))) <|
   T.osome p9 <| fun (a12 : Addr) =>
   T.loads a12 [.int .i64] <| fun (n13 : Int) =>
   cond (n13 != (3 : Int))
    (T.ret (.bool false))
    (T.osome p0 <| fun (a14 : Addr) =>
    T.loads a14 [.slice 35] <| fun (p15 : Option Addr) (l16 : Nat) (l17 : Nat) =>
    T.need (((0 : Int) ≤ (0 : Int)) ∧ ((0 : Int) < (l16 : Int))) <|
    T.osome p15 <| fun (a18 : Addr) =>
    T.loads (a18.add 1) [.string] <| fun (s19 : ByteArray) =>
    cond (!((ByteArray.toList s19) == (ByteArray.toList s1)))
     (T.ret (.bool false))
     (T.osome p0 <| fun (a20 : Addr) =>
     T.loads a20 [.slice 35] <| fun (p21 : Option Addr) (l22 : Nat) (l23 : Nat) =>
     T.need (((0 : Int) ≤ (1 : Int)) ∧ (((1 : Int) ≤ (l22 : Int)) ∧ ((l22 : Int) ≤ (l23 : Int)))) <|
     T.osome p0 <| fun (a24 : Addr) =>
     T.stores a24 [.slice (if (l23 = 1) then p21 else (Option.map (fun a => Addr.add a 4) p21)) ((Int.toNat (l22 : Int)) - 1) (l23 - 1)] <|
     T.ret (.bool true)))))
theorem t_expr_parser__sign_eq (p0 : Option Addr) (s1 : ByteArray) : xfun Tryd.prog [] Tryd.f79 [.pointer p0, .string s1] = t_expr_parser__sign p0 s1 := by kernel_rfl

/-- The tree of 80. -/
def t_expr_parser__refuse (p0 : Option Addr) (n1 : Int) : T :=
 T.osome p0 <| fun (a2 : Addr) =>
 T.loads (a2.add 2) [.int .i64] <| fun (n3 : Int) =>
 cond (n3 == (0 : Int))
  (T.osome p0 <| fun (a4 : Addr) =>
  T.stores (a4.add 2) [.int .i64 n1] <|
  T.ret (.tuple #[]))
  (T.ret (.tuple #[]))
theorem t_expr_parser__refuse_eq (p0 : Option Addr) (n1 : Int) : xfun Tryd.prog [] Tryd.f80 [.pointer p0, .int .i64 n1] = t_expr_parser__refuse p0 n1 := by kernel_rfl

/-- The tree of 84. -/
def t_spandrelref4_reader__refuse (p0 : Option Addr) (n1 : Int) : T :=
 T.osome p0 <| fun (a2 : Addr) =>
 T.loads (a2.add 3) [.int .i64] <| fun (n3 : Int) =>
 cond (n3 == (0 : Int))
  (T.osome p0 <| fun (a4 : Addr) =>
  T.stores (a4.add 3) [.int .i64 n1] <|
  T.ret (.tuple #[]))
  (T.ret (.tuple #[]))
theorem t_spandrelref4_reader__refuse_eq (p0 : Option Addr) (n1 : Int) : xfun Tryd.prog [] Tryd.f84 [.pointer p0, .int .i64 n1] = t_spandrelref4_reader__refuse p0 n1 := by kernel_rfl

/-- The tree of 97. -/
def t_spandrelref4_reader__is (p0 : Option Addr) (s1 : ByteArray) : T :=
 T.osome p0 <| fun (a2 : Addr) =>
 T.loads (a2.add 3) [.int .i64] <| fun (n3 : Int) =>
 cond (n3 == (0 : Int))
  (T.osome p0 <| fun (a4 : Addr) =>
  T.loads (a4.add 1) [.int .i64] <| fun (n5 : Int) =>
  T.osome p0 <| fun (a6 : Addr) =>
  T.loads a6 [.slice 105] <| fun (p7 : Option Addr) (l8 : Nat) (l9 : Nat) =>
  cond (decide (n5 < (l8 : Int)))
   (T.osome p0 <| fun (a10 : Addr) =>
   T.loads a10 [.slice 105] <| fun (p11 : Option Addr) (l12 : Nat) (l13 : Nat) =>
   T.osome p0 <| fun (a14 : Addr) =>
   T.loads (a14.add 1) [.int .i64] <| fun (n15 : Int) =>
   T.need (((0 : Int) ≤ n15) ∧ (n15 < (l12 : Int))) <|
   T.osome p11 <| fun (a16 : Addr) =>
   T.loads (a16.add ((Int.toNat n15) * 4)) [.int .i64] <| fun (n17 : Int) =>
   cond (n17 == (3 : Int))
    (T.osome p0 <| fun (a18 : Addr) =>
    T.loads a18 [.slice 105] <| fun (p19 : Option Addr) (l20 : Nat) (l21 : Nat) =>
    T.osome p0 <| fun (a22 : Addr) =>
    T.loads (a22.add 1) [.int .i64] <| fun (n23 : Int) =>
    T.need (((0 : Int) ≤ n23) ∧ (n23 < (l20 : Int))) <|
    T.osome p19 <| fun (a24 : Addr) =>
    T.loads ((a24.add ((Int.toNat n23) * 4)).add 1) [.string] <| fun (s25 : ByteArray) =>
    T.ret (.bool ((ByteArray.toList s25) == (ByteArray.toList s1))))
    (T.ret (.bool false)))
   (T.ret (.bool false)))
  (T.ret (.bool false))
theorem t_spandrelref4_reader__is_eq (p0 : Option Addr) (s1 : ByteArray) : xfun Tryd.prog [] Tryd.f97 [.pointer p0, .string s1] = t_spandrelref4_reader__is p0 s1 := by kernel_rfl

end Go.Sx
