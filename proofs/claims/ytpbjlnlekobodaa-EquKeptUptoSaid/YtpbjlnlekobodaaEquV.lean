/- Trees of functions, each checked by the kernel against the code. No condition. -/
import Derived.Test.YtpbjlnlekobodaaSxF
import Derived.Test.YtpbjlnlekobodaaProg
import Derived.KernelRfl
set_option linter.unusedVariables false
set_option linter.unusedSimpArgs false
set_option linter.deprecated false
set_option maxRecDepth 100000
namespace Go.Sx
open Go.Proofs
/-- The tree of 46. -/
def t_expr_made (r0 : Option Nat) (n1 : Int) : T :=
 T.new [.slice none 0 0, .int .u32 (0 : Int)] 36 <| fun (a2 : Addr) =>
 T.new [.slice none 0 0, .int .u32 (0 : Int)] 36 <| fun (a3 : Addr) =>
 T.stores a3 [.slice none 0 0, .int .u32 n1] <|
 T.call Try.prog 43 [.map r0] false [(false, [.func #[63] #[] false])] <| fun (v4 : Value) =>
 T.call Try.prog 42 [v4] false [(false, [.slice 9])] <| fun (p5 : Option Addr) (l6 : Nat) (l7 : Nat) =>
 T.loop [(false, [.int .i64])] [.int .i64 (0 : Int)] <| fun (n8 : Int) =>
 cond (decide (n8 < (l6 : Int)))
  (T.need (((0 : Int) ≤ n8) ∧ (n8 < (l6 : Int))) <|
  T.osome p5 <| fun (a9 : Addr) =>
  T.loads (a9.add ((Int.toNat n8) * 1)) [.string] <| fun (s10 : ByteArray) =>
  T.sem Try.prog (Instr.lookup 31 (.map r0) (.string s10) false) false [(false, [.int .u32])] <| fun (n11 : Int) =>
  cond (n11 != (0 : Int))
   (T.loads a3 [.slice 40] <| fun (p12 : Option Addr) (l13 : Nat) (l14 : Nat) =>
   T.sem Try.prog (Instr.lookup 31 (.map r0) (.string s10) false) false [(false, [.int .u32])] <| fun (n15 : Int) =>
   T.sem Try.prog (Instr.buildSlice 33 1 #[(0, .agg #[.string s10, .int .u32 n15])]) false [(false, [.slice 0])] <| fun (p16 : Option Addr) (l17 : Nat) (l18 : Nat) =>
   T.sem Try.prog (Builtin.append_ #[33, 33] 33 #[.slice p12 l13 l14, .slice p16 l17 l18]) false [(false, [.slice 0])] <| fun (p19 : Option Addr) (l20 : Nat) (l21 : Nat) =>
   T.stores a3 [.slice p19 l20 l21] <|
   T.again 0 [.int .i64 (IntKind.wrap .i64 (n8 + (1 : Int)))])
   (T.again 0 [.int .i64 (IntKind.wrap .i64 (n8 + (1 : Int)))]))
  (T.loads a3 [.slice 40, .int .u32] <| fun (p9 : Option Addr) (l10 : Nat) (l11 : Nat) (n12 : Int) =>
  T.stores a2 [.slice p9 l10 l11, .int .u32 n12] <|
  T.loads a2 [.slice 40, .int .u32] <| fun (p13 : Option Addr) (l14 : Nat) (l15 : Nat) (n16 : Int) =>
  T.ret (.agg #[.slice p13 l14 l15, .int .u32 n16]))
theorem t_expr_made_eq (r0 : Option Nat) (n1 : Int) : xfun Try.prog [] Try.f46 [.map r0, .int .u32 n1] = t_expr_made r0 n1 := by kernel_rfl

/-- The tree of 34. -/
def t_expr_Add (pp00 : Option Addr) (ll00 cc00 : Nat) (n1_0 : Int) (pp10 : Option Addr) (ll10 cc10 : Nat) (n1_1 : Int) : T :=
 T.new [.slice pp00 ll00 cc00, .int .u32 n1_0] 36 <| fun (a2 : Addr) =>
 T.new [.slice pp10 ll10 cc10, .int .u32 n1_1] 36 <| fun (a3 : Addr) =>
 T.new [.slice none 0 0, .int .u32 (0 : Int)] 36 <| fun (a4 : Addr) =>
 T.sem Try.prog (Instr.makeMap 31 none) false [(false, [.map 0 0])] <| fun (r5 : Option Nat) =>
 T.loads a2 [.slice 40] <| fun (p6 : Option Addr) (l7 : Nat) (l8 : Nat) =>
 T.loads a3 [.slice 40] <| fun (p9 : Option Addr) (l10 : Nat) (l11 : Nat) =>
 T.sem Try.prog (Instr.buildSlice 49 2 #[(0, .slice p6 l7 l8), (1, .slice p9 l10 l11)]) false [(false, [.slice 0])] <| fun (p12 : Option Addr) (l13 : Nat) (l14 : Nat) =>
 T.loop [(false, [.int .i64])] [.int .i64 (0 : Int)] <| fun (n15 : Int) =>
 cond (decide (n15 < (l13 : Int)))
  (T.need (((0 : Int) ≤ n15) ∧ (n15 < (l13 : Int))) <|
  T.osome p12 <| fun (a16 : Addr) =>
  T.loads (a16.add ((Int.toNat n15) * 1)) [.slice 40] <| fun (p17 : Option Addr) (l18 : Nat) (l19 : Nat) =>
  T.loop [(false, [.int .i64])] [.int .i64 (0 : Int)] <| fun (n20 : Int) =>
  cond (decide (n20 < (l18 : Int)))
   (T.need (((0 : Int) ≤ n20) ∧ (n20 < (l18 : Int))) <|
   T.osome p17 <| fun (a21 : Addr) =>
   T.loads (a21.add ((Int.toNat n20) * 2)) [.string, .int .u32] <| fun (s22 : ByteArray) (n23 : Int) =>
   T.new [.string ⟨#[]⟩, .int .u32 (0 : Int)] 40 <| fun (a24 : Addr) =>
   T.stores a24 [.string s22, .int .u32 n23] <|
   T.loads a24 [.string] <| fun (s25 : ByteArray) =>
   T.sem Try.prog (Instr.lookup 31 (.map r5) (.string s25) false) false [(false, [.int .u32])] <| fun (n26 : Int) =>
   T.loads (a24.add 1) [.int .u32] <| fun (n27 : Int) =>
   T.semU Try.prog (Instr.mapUpdate 31 (.map r5) (.string s25) (.int .u32 (IntKind.wrap .u32 (n26 + n27)))) <|
   T.again 1 [.int .i64 (IntKind.wrap .i64 (n20 + (1 : Int)))])
   (T.again 0 [.int .i64 (IntKind.wrap .i64 (n15 + (1 : Int)))]))
  (T.loads (a2.add 1) [.int .u32] <| fun (n16 : Int) =>
  T.loads (a3.add 1) [.int .u32] <| fun (n17 : Int) =>
  T.call Try.prog 46 [.map r5, .int .u32 (IntKind.wrap .u32 (n16 + n17))] false [(true, [.slice 40, .int .u32])] <| fun (p18 : Option Addr) (l19 : Nat) (l20 : Nat) (n21 : Int) =>
  T.stores a4 [.slice p18 l19 l20, .int .u32 n21] <|
  T.loads a4 [.slice 40, .int .u32] <| fun (p22 : Option Addr) (l23 : Nat) (l24 : Nat) (n25 : Int) =>
  T.ret (.agg #[.slice p22 l23 l24, .int .u32 n25]))
theorem t_expr_Add_eq (pp00 : Option Addr) (ll00 cc00 : Nat) (n1_0 : Int) (pp10 : Option Addr) (ll10 cc10 : Nat) (n1_1 : Int) : xfun Try.prog [] Try.f34 [.agg #[.slice pp00 ll00 cc00, .int .u32 n1_0], .agg #[.slice pp10 ll10 cc10, .int .u32 n1_1]] = t_expr_Add pp00 ll00 cc00 n1_0 pp10 ll10 cc10 n1_1 := by kernel_rfl

/-- The tree of 12. -/
def t_spandrelref4_Right (pp00 : Option Addr) (ll00 cc00 : Nat) (n1_0 : Int) : T :=
 T.new [.slice pp00 ll00 cc00, .int .u32 n1_0] 36 <| fun (a1 : Addr) =>
 T.loop [(false, [.bool]), (false, [.int .i64])] [.bool false, .int .i64 (0 : Int)] <| fun (b2 : Bool) (n3 : Int) =>
 T.loads a1 [.slice 40] <| fun (p4 : Option Addr) (l5 : Nat) (l6 : Nat) =>
 cond (decide (n3 < (l5 : Int)))
  (T.loads a1 [.slice 40] <| fun (p7 : Option Addr) (l8 : Nat) (l9 : Nat) =>
  T.need (((0 : Int) ≤ n3) ∧ (n3 < (l8 : Int))) <|
  T.osome p7 <| fun (a10 : Addr) =>
  T.loads (a10.add ((Int.toNat n3) * 2)) [.string] <| fun (s11 : ByteArray) =>
  T.call Try.prog 24 [.string s11] false [(false, [.bool])] <| fun (b12 : Bool) =>
  T.stable [(a1, [.slice p7 l8 l9])] <|
  cond (!b12)
   (T.ret (.bool false))
   (T.loads a1 [.slice 40] <| fun (p13 : Option Addr) (l14 : Nat) (l15 : Nat) =>
   T.need (((0 : Int) ≤ n3) ∧ (n3 < (l14 : Int))) <|
   T.osome p13 <| fun (a16 : Addr) =>
   T.loads ((a16.add ((Int.toNat n3) * 2)).add 1) [.int .u32] <| fun (n17 : Int) =>
   cond (n17 == (0 : Int))
    (T.ret (.bool false))
    (cond (decide (n3 > (0 : Int)))
     (T.loads a1 [.slice 40] <| fun (p18 : Option Addr) (l19 : Nat) (l20 : Nat) =>
     T.need (((0 : Int) ≤ n3) ∧ (n3 < (l19 : Int))) <|
     T.osome p18 <| fun (a21 : Addr) =>
     T.loads (a21.add ((Int.toNat n3) * 2)) [.string] <| fun (s22 : ByteArray) =>
     T.loads a1 [.slice 40] <| fun (p23 : Option Addr) (l24 : Nat) (l25 : Nat) =>
     T.need (((0 : Int) ≤ (IntKind.wrap .i64 (n3 - (1 : Int)))) ∧ ((IntKind.wrap .i64 (n3 - (1 : Int))) < (l24 : Int))) <|
     T.osome p23 <| fun (a26 : Addr) =>
     T.loads (a26.add ((Int.toNat (IntKind.wrap .i64 (n3 - (1 : Int)))) * 2)) [.string] <| fun (s27 : ByteArray) =>
     cond ((Op.bytesLess (ByteArray.toList s22) (ByteArray.toList s27)) || ((ByteArray.toList s22) == (ByteArray.toList s27)))
      (T.ret (.bool false))
      (T.again 0 [.bool b2, .int .i64 (IntKind.wrap .i64 (n3 + (1 : Int)))]))
     (T.again 0 [.bool b2, .int .i64 (IntKind.wrap .i64 (n3 + (1 : Int)))]))))
  (T.ret (.bool true))
theorem t_spandrelref4_Right_eq (pp00 : Option Addr) (ll00 cc00 : Nat) (n1_0 : Int) : xfun Try.prog [] Try.f12 [.agg #[.slice pp00 ll00 cc00, .int .u32 n1_0]] = t_spandrelref4_Right pp00 ll00 cc00 n1_0 := by kernel_rfl

/-- The tree of 11. -/
def t_expr_Value (pp00 : Option Addr) (ll00 cc00 : Nat) (n1_0 : Int) (r1 : Option Nat) : T :=
 T.new [.slice pp00 ll00 cc00, .int .u32 n1_0] 36 <| fun (a2 : Addr) =>
 T.loads (a2.add 1) [.int .u32] <| fun (n3 : Int) =>
 T.loads a2 [.slice 40] <| fun (p4 : Option Addr) (l5 : Nat) (l6 : Nat) =>
 T.loop [(false, [.int .u32]), (false, [.bool]), (false, [.int .u32]), (false, [.int .i64])] [.int .u32 (0 : Int), .bool false, .int .u32 n3, .int .i64 (0 : Int)] <| fun (n7 : Int) (b8 : Bool) (n9 : Int) (n10 : Int) =>
 cond (decide (n10 < (l5 : Int)))
  (T.need (((0 : Int) ≤ n10) ∧ (n10 < (l5 : Int))) <|
  T.osome p4 <| fun (a11 : Addr) =>
  T.loads (a11.add ((Int.toNat n10) * 2)) [.string, .int .u32] <| fun (s12 : ByteArray) (n13 : Int) =>
  T.new [.string ⟨#[]⟩, .int .u32 (0 : Int)] 40 <| fun (a14 : Addr) =>
  T.stores a14 [.string s12, .int .u32 n13] <|
  T.loads a14 [.string] <| fun (s15 : ByteArray) =>
  T.sem Try.prog (Instr.lookup 31 (.map r1) (.string s15) true) true [(false, [.int .u32]), (false, [.bool])] <| fun (n16 : Int) (b17 : Bool) =>
  cond (!b17)
   (T.ret (.tuple #[.int .u32 (0 : Int), .bool false]))
   (T.loads (a14.add 1) [.int .u32] <| fun (n18 : Int) =>
   T.again 0 [.int .u32 n7, .bool b8, .int .u32 (IntKind.wrap .u32 (n9 + (IntKind.wrap .u32 (n18 * n16)))), .int .i64 (IntKind.wrap .i64 (n10 + (1 : Int)))]))
  (T.ret (.tuple #[.int .u32 n9, .bool true]))
theorem t_expr_Value_eq (pp00 : Option Addr) (ll00 cc00 : Nat) (n1_0 : Int) (r1 : Option Nat) : xfun Try.prog [] Try.f11 [.agg #[.slice pp00 ll00 cc00, .int .u32 n1_0], .map r1] = t_expr_Value pp00 ll00 cc00 n1_0 r1 := by kernel_rfl

/-- The tree of 20. -/
def t_spandrelref4_Same (pp00 : Option Addr) (ll00 cc00 : Nat) (n1_0 : Int) (pp10 : Option Addr) (ll10 cc10 : Nat) (n1_1 : Int) : T :=
 T.new [.slice pp00 ll00 cc00, .int .u32 n1_0] 36 <| fun (a2 : Addr) =>
 T.new [.slice pp10 ll10 cc10, .int .u32 n1_1] 36 <| fun (a3 : Addr) =>
 T.loads (a2.add 1) [.int .u32] <| fun (n4 : Int) =>
 T.loads (a3.add 1) [.int .u32] <| fun (n5 : Int) =>
 cond (n4 != n5)
  (T.ret (.bool false))
  (T.loads a2 [.slice 40] <| fun (p6 : Option Addr) (l7 : Nat) (l8 : Nat) =>
  T.loads a3 [.slice 40] <| fun (p9 : Option Addr) (l10 : Nat) (l11 : Nat) =>
  cond ((l7 : Int) != (l10 : Int))
   (T.ret (.bool false))
   (T.loop [(false, [.bool]), (false, [.int .i64])] [.bool false, .int .i64 (0 : Int)] <| fun (b12 : Bool) (n13 : Int) =>
   T.loads a2 [.slice 40] <| fun (p14 : Option Addr) (l15 : Nat) (l16 : Nat) =>
   cond (decide (n13 < (l15 : Int)))
    (T.loads a2 [.slice 40] <| fun (p17 : Option Addr) (l18 : Nat) (l19 : Nat) =>
    T.need (((0 : Int) ≤ n13) ∧ (n13 < (l18 : Int))) <|
    T.osome p17 <| fun (a20 : Addr) =>
    T.loads (a20.add ((Int.toNat n13) * 2)) [.string, .int .u32] <| fun (s21 : ByteArray) (n22 : Int) =>
    T.loads a3 [.slice 40] <| fun (p23 : Option Addr) (l24 : Nat) (l25 : Nat) =>
    T.need (((0 : Int) ≤ n13) ∧ (n13 < (l24 : Int))) <|
    T.osome p23 <| fun (a26 : Addr) =>
    T.loads (a26.add ((Int.toNat n13) * 2)) [.string, .int .u32] <| fun (s27 : ByteArray) (n28 : Int) =>
    T.sem Try.prog (Sx.cmpS (BinOp.neq) 40 (Operand.tmp 31) (Operand.tmp 36) (.agg #[.string s21, .int .u32 n22]) (.agg #[.string s27, .int .u32 n28])) false [(false, [.bool])] <| fun (b29 : Bool) =>
    T.stable [(a3, [.slice p23 l24 l25]), (a2, [.slice p17 l18 l19])] <|
    cond b29
     (T.ret (.bool false))
     (T.again 0 [.bool b12, .int .i64 (IntKind.wrap .i64 (n13 + (1 : Int)))]))
    (T.ret (.bool true))))
theorem t_spandrelref4_Same_eq (pp00 : Option Addr) (ll00 cc00 : Nat) (n1_0 : Int) (pp10 : Option Addr) (ll10 cc10 : Nat) (n1_1 : Int) : xfun Try.prog [] Try.f20 [.agg #[.slice pp00 ll00 cc00, .int .u32 n1_0], .agg #[.slice pp10 ll10 cc10, .int .u32 n1_1]] = t_spandrelref4_Same pp00 ll00 cc00 n1_0 pp10 ll10 cc10 n1_1 := by kernel_rfl

/-- The tree of 23. -/
def t_expr_Same (pp00 : Option Addr) (ll00 cc00 : Nat) (n1_0 : Int) (pp10 : Option Addr) (ll10 cc10 : Nat) (n1_1 : Int) : T :=
 T.new [.slice pp00 ll00 cc00, .int .u32 n1_0] 36 <| fun (a2 : Addr) =>
 T.new [.slice pp10 ll10 cc10, .int .u32 n1_1] 36 <| fun (a3 : Addr) =>
 T.loads (a2.add 1) [.int .u32] <| fun (n4 : Int) =>
 T.loads (a3.add 1) [.int .u32] <| fun (n5 : Int) =>
 cond (n4 == n5)
  (T.loads a2 [.slice 40] <| fun (p6 : Option Addr) (l7 : Nat) (l8 : Nat) =>
  T.loads a3 [.slice 40] <| fun (p9 : Option Addr) (l10 : Nat) (l11 : Nat) =>
  T.call Try.prog 36 [.slice p6 l7 l8, .slice p9 l10 l11] false [(false, [.bool])] <| fun (b12 : Bool) =>
  T.ret (.bool b12))
  (T.ret (.bool false))
theorem t_expr_Same_eq (pp00 : Option Addr) (ll00 cc00 : Nat) (n1_0 : Int) (pp10 : Option Addr) (ll10 cc10 : Nat) (n1_1 : Int) : xfun Try.prog [] Try.f23 [.agg #[.slice pp00 ll00 cc00, .int .u32 n1_0], .agg #[.slice pp10 ll10 cc10, .int .u32 n1_1]] = t_expr_Same pp00 ll00 cc00 n1_0 pp10 ll10 cc10 n1_1 := by kernel_rfl

/-- The tree of 36. -/
def t_slices_Equal___api_Term_api_Term_ (pp00 : Option Addr) (ll00 cc00 : Nat) (pp10 : Option Addr) (ll10 cc10 : Nat) : T :=
 cond ((ll00 : Int) != (ll10 : Int))
  (T.ret (.bool false))
  (T.loop [(false, [.bool]), (false, [.int .i64])] [.bool false, .int .i64 (0 : Int)] <| fun (b2 : Bool) (n3 : Int) =>
  cond (decide (n3 < (ll00 : Int)))
   (T.need (((0 : Int) ≤ n3) ∧ (n3 < (ll00 : Int))) <|
   T.osome pp00 <| fun (a4 : Addr) =>
   T.loads (a4.add ((Int.toNat n3) * 2)) [.string, .int .u32] <| fun (s5 : ByteArray) (n6 : Int) =>
   T.need (((0 : Int) ≤ n3) ∧ (n3 < (ll10 : Int))) <|
   T.osome pp10 <| fun (a7 : Addr) =>
   T.loads (a7.add ((Int.toNat n3) * 2)) [.string, .int .u32] <| fun (s8 : ByteArray) (n9 : Int) =>
   T.sem Try.prog (Sx.cmpS (BinOp.neq) 40 (Operand.tmp 19) (Operand.tmp 23) (.agg #[.string s5, .int .u32 n6]) (.agg #[.string s8, .int .u32 n9])) false [(false, [.bool])] <| fun (b10 : Bool) =>
   cond b10
    (T.ret (.bool false))
    (T.again 0 [.bool b2, .int .i64 (IntKind.wrap .i64 (n3 + (1 : Int)))]))
   (T.ret (.bool true)))
theorem t_slices_Equal___api_Term_api_Term__eq (pp00 : Option Addr) (ll00 cc00 : Nat) (pp10 : Option Addr) (ll10 cc10 : Nat) : xfun Try.prog [] Try.f36 [.slice pp00 ll00 cc00, .slice pp10 ll10 cc10] = t_slices_Equal___api_Term_api_Term_ pp00 ll00 cc00 pp10 ll10 cc10 := by kernel_rfl

/-- The tree of 24. -/
def t_spandrelref2_Legal (s0 : ByteArray) : T :=
 cond (decide ((s0.size : Int) < (1 : Int)))
  (T.ret (.bool false))
  (cond (decide ((s0.size : Int) > (32 : Int)))
   (T.ret (.bool false))
   (T.need (((0 : Int) ≤ (0 : Int)) ∧ ((0 : Int) < (s0.size : Int))) <|
   T.call Try.prog 37 [.int .u8 (sbyte s0 (0 : Int))] false [(false, [.bool])] <| fun (b1 : Bool) =>
   cond (!b1)
    (T.ret (.bool false))
    (T.loop [(false, [.bool]), (false, [.int .i64])] [.bool false, .int .i64 (0 : Int)] <| fun (b2 : Bool) (n3 : Int) =>
    cond (decide (n3 < (s0.size : Int)))
     (T.need (((0 : Int) ≤ n3) ∧ (n3 < (s0.size : Int))) <|
     T.call Try.prog 37 [.int .u8 (sbyte s0 n3)] false [(false, [.bool])] <| fun (b4 : Bool) =>
     cond (!b4)
      (T.need (((0 : Int) ≤ n3) ∧ (n3 < (s0.size : Int))) <|
      T.call Try.prog 38 [.int .u8 (sbyte s0 n3)] false [(false, [.bool])] <| fun (b5 : Bool) =>
      cond (!b5)
       (T.ret (.bool false))
       (T.again 0 [.bool b2, .int .i64 (IntKind.wrap .i64 (n3 + (1 : Int)))]))
      (T.again 0 [.bool b2, .int .i64 (IntKind.wrap .i64 (n3 + (1 : Int)))]))
     (T.call Try.prog 39 [.string s0] true [(false, [.int .i64]), (false, [.bool]), (false, [.bool])] <| fun (n4 : Int) (b5 : Bool) (b6 : Bool) =>
     T.ret (.bool (!b6))))))
theorem t_spandrelref2_Legal_eq (s0 : ByteArray) : xfun Try.prog [] Try.f24 [.string s0] = t_spandrelref2_Legal s0 := by kernel_rfl

/-- The tree of 37. -/
def t_spandrelref2_Letter (n0 : Int) : T :=
 cond (decide (n0 ≥ (97 : Int)))
  (cond (decide (n0 ≤ (122 : Int)))
   (T.ret (.bool true))
   (cond (decide (n0 ≥ (65 : Int)))
    (cond (decide (n0 ≤ (90 : Int)))
     (T.ret (.bool true))
     (T.ret (.bool (n0 == (95 : Int)))))
    (T.ret (.bool (n0 == (95 : Int))))))
  (cond (decide (n0 ≥ (65 : Int)))
   (cond (decide (n0 ≤ (90 : Int)))
    (T.ret (.bool true))
    (T.ret (.bool (n0 == (95 : Int)))))
   (T.ret (.bool (n0 == (95 : Int)))))
theorem t_spandrelref2_Letter_eq (n0 : Int) : xfun Try.prog [] Try.f37 [.int .u8 n0] = t_spandrelref2_Letter n0 := by kernel_rfl

/-- The tree of 38. -/
def t_spandrelref2_Digit (n0 : Int) : T :=
 cond (decide (n0 ≥ (48 : Int)))
  (T.ret (.bool (decide (n0 ≤ (57 : Int)))))
  (T.ret (.bool false))
theorem t_spandrelref2_Digit_eq (n0 : Int) : xfun Try.prog [] Try.f38 [.int .u8 n0] = t_spandrelref2_Digit n0 := by kernel_rfl

/-- The tree of 39. -/
def t_spandrelref2_Register (s0 : ByteArray) : T :=
 cond ((s0.size : Int) != (2 : Int))
  (T.ret (.tuple #[.int .i64 (0 : Int), .bool false, .bool false]))
  (T.need (((0 : Int) ≤ (1 : Int)) ∧ ((1 : Int) < (s0.size : Int))) <|
  T.need (((0 : Int) ≤ (0 : Int)) ∧ ((0 : Int) < (s0.size : Int))) <|
  cond ((sbyte s0 (0 : Int)) == (114 : Int))
   (cond (decide ((IntKind.wrap .i64 ((IntKind.wrap .i64 (sbyte s0 (1 : Int))) - (48 : Int))) ≥ (0 : Int)))
    (cond (decide ((IntKind.wrap .i64 ((IntKind.wrap .i64 (sbyte s0 (1 : Int))) - (48 : Int))) ≤ (7 : Int)))
     (T.ret (.tuple #[.int .i64 (IntKind.wrap .i64 ((IntKind.wrap .i64 (sbyte s0 (1 : Int))) - (48 : Int))), .bool false, .bool true]))
     (T.need (((0 : Int) ≤ (0 : Int)) ∧ ((0 : Int) < (s0.size : Int))) <|
     cond ((sbyte s0 (0 : Int)) == (122 : Int))
      (cond (decide ((IntKind.wrap .i64 ((IntKind.wrap .i64 (sbyte s0 (1 : Int))) - (48 : Int))) ≥ (0 : Int)))
       (cond (decide ((IntKind.wrap .i64 ((IntKind.wrap .i64 (sbyte s0 (1 : Int))) - (48 : Int))) ≤ (3 : Int)))
        (T.ret (.tuple #[.int .i64 (IntKind.wrap .i64 ((IntKind.wrap .i64 (sbyte s0 (1 : Int))) - (48 : Int))), .bool true, .bool true]))
        (T.ret (.tuple #[.int .i64 (0 : Int), .bool false, .bool false])))
       (T.ret (.tuple #[.int .i64 (0 : Int), .bool false, .bool false])))
      (T.ret (.tuple #[.int .i64 (0 : Int), .bool false, .bool false]))))
    (T.need (((0 : Int) ≤ (0 : Int)) ∧ ((0 : Int) < (s0.size : Int))) <|
    cond ((sbyte s0 (0 : Int)) == (122 : Int))
     (cond (decide ((IntKind.wrap .i64 ((IntKind.wrap .i64 (sbyte s0 (1 : Int))) - (48 : Int))) ≥ (0 : Int)))
      (cond (decide ((IntKind.wrap .i64 ((IntKind.wrap .i64 (sbyte s0 (1 : Int))) - (48 : Int))) ≤ (3 : Int)))
       (T.ret (.tuple #[.int .i64 (IntKind.wrap .i64 ((IntKind.wrap .i64 (sbyte s0 (1 : Int))) - (48 : Int))), .bool true, .bool true]))
       (T.ret (.tuple #[.int .i64 (0 : Int), .bool false, .bool false])))
      (T.ret (.tuple #[.int .i64 (0 : Int), .bool false, .bool false])))
     (T.ret (.tuple #[.int .i64 (0 : Int), .bool false, .bool false]))))
   (T.need (((0 : Int) ≤ (0 : Int)) ∧ ((0 : Int) < (s0.size : Int))) <|
   cond ((sbyte s0 (0 : Int)) == (122 : Int))
    (cond (decide ((IntKind.wrap .i64 ((IntKind.wrap .i64 (sbyte s0 (1 : Int))) - (48 : Int))) ≥ (0 : Int)))
     (cond (decide ((IntKind.wrap .i64 ((IntKind.wrap .i64 (sbyte s0 (1 : Int))) - (48 : Int))) ≤ (3 : Int)))
      (T.ret (.tuple #[.int .i64 (IntKind.wrap .i64 ((IntKind.wrap .i64 (sbyte s0 (1 : Int))) - (48 : Int))), .bool true, .bool true]))
      (T.ret (.tuple #[.int .i64 (0 : Int), .bool false, .bool false])))
     (T.ret (.tuple #[.int .i64 (0 : Int), .bool false, .bool false])))
    (T.ret (.tuple #[.int .i64 (0 : Int), .bool false, .bool false]))))
theorem t_spandrelref2_Register_eq (s0 : ByteArray) : xfun Try.prog [] Try.f39 [.string s0] = t_spandrelref2_Register s0 := by kernel_rfl

/-- The tree of 33. -/
def t_spandrelbook_Same_api_Term_ (pp00 : Option Addr) (ll00 cc00 : Nat) (pp10 : Option Addr) (ll10 cc10 : Nat) : T :=
 cond ((ll00 : Int) != (ll10 : Int))
  (T.ret (.bool false))
  (T.loop [(false, [.bool]), (false, [.int .i64])] [.bool false, .int .i64 (0 : Int)] <| fun (b2 : Bool) (n3 : Int) =>
  cond (decide (n3 < (ll00 : Int)))
   (T.need (((0 : Int) ≤ n3) ∧ (n3 < (ll00 : Int))) <|
   T.osome pp00 <| fun (a4 : Addr) =>
   T.loads (a4.add ((Int.toNat n3) * 2)) [.string, .int .u32] <| fun (s5 : ByteArray) (n6 : Int) =>
   T.need (((0 : Int) ≤ n3) ∧ (n3 < (ll10 : Int))) <|
   T.osome pp10 <| fun (a7 : Addr) =>
   T.loads (a7.add ((Int.toNat n3) * 2)) [.string, .int .u32] <| fun (s8 : ByteArray) (n9 : Int) =>
   T.sem Try.prog (Sx.cmpS (BinOp.neq) 40 (Operand.tmp 20) (Operand.tmp 24) (.agg #[.string s5, .int .u32 n6]) (.agg #[.string s8, .int .u32 n9])) false [(false, [.bool])] <| fun (b10 : Bool) =>
   cond b10
    (T.ret (.bool false))
    (T.again 0 [.bool b2, .int .i64 (IntKind.wrap .i64 (n3 + (1 : Int)))]))
   (T.ret (.bool true)))
theorem t_spandrelbook_Same_api_Term__eq (pp00 : Option Addr) (ll00 cc00 : Nat) (pp10 : Option Addr) (ll10 cc10 : Nat) : xfun Try.prog [] Try.f33 [.slice pp00 ll00 cc00, .slice pp10 ll10 cc10] = t_spandrelbook_Same_api_Term_ pp00 ll00 cc00 pp10 ll10 cc10 := by kernel_rfl

/-- The tree of 35. -/
def t_spandrelbook_Book_api_Term___Stays (p0 : Option Addr) : T :=
 T.loop [(false, [.int .i64])] [.int .i64 (0 : Int)] <| fun (n1 : Int) =>
 T.osome p0 <| fun (a2 : Addr) =>
 T.loads a2 [.slice 33] <| fun (p3 : Option Addr) (l4 : Nat) (l5 : Nat) =>
 cond (decide (n1 < (l4 : Int)))
  (T.osome p0 <| fun (a6 : Addr) =>
  T.loads (a6.add 3) [.bool] <| fun (b7 : Bool) =>
  cond b7
   (T.osome p0 <| fun (a8 : Addr) =>
   T.stores (a8.add 3) [.bool true] <|
   T.again 0 [.int .i64 (IntKind.wrap .i64 (n1 + (1 : Int)))])
   (T.osome p0 <| fun (a8 : Addr) =>
   T.loads a8 [.slice 33] <| fun (p9 : Option Addr) (l10 : Nat) (l11 : Nat) =>
   T.need (((0 : Int) ≤ n1) ∧ (n1 < (l10 : Int))) <|
   T.osome p9 <| fun (a12 : Addr) =>
   T.loads (a12.add ((Int.toNat n1) * 1)) [.slice 40] <| fun (p13 : Option Addr) (l14 : Nat) (l15 : Nat) =>
   T.osome p0 <| fun (a16 : Addr) =>
   T.loads (a16.add 1) [.slice 33] <| fun (p17 : Option Addr) (l18 : Nat) (l19 : Nat) =>
   T.need (((0 : Int) ≤ n1) ∧ (n1 < (l18 : Int))) <|
   T.osome p17 <| fun (a20 : Addr) =>
   T.loads (a20.add ((Int.toNat n1) * 1)) [.slice 40] <| fun (p21 : Option Addr) (l22 : Nat) (l23 : Nat) =>
   T.call Try.prog 33 [.slice p13 l14 l15, .slice p21 l22 l23] false [(false, [.bool])] <| fun (b24 : Bool) =>
   T.stable [((a16.add 1), [.slice p17 l18 l19]), (a8, [.slice p9 l10 l11]), ((a6.add 3), [.bool b7])] <|
   T.osome p0 <| fun (a25 : Addr) =>
   T.stores (a25.add 3) [.bool (!b24)] <|
   T.again 0 [.int .i64 (IntKind.wrap .i64 (n1 + (1 : Int)))]))
  (T.osome p0 <| fun (a6 : Addr) =>
  T.loads (a6.add 3) [.bool] <| fun (b7 : Bool) =>
  T.ret (.bool (!b7)))
theorem t_spandrelbook_Book_api_Term___Stays_eq (p0 : Option Addr) : xfun Try.prog [] Try.f35 [.pointer p0] = t_spandrelbook_Book_api_Term___Stays p0 := by kernel_rfl

/-- The tree of 17. -/
def t_spandrellaw11_mark (n0 : Int) (n1 : Int) : T :=
 T.new [.string ⟨#[]⟩, .int .u32 (0 : Int)] 40 <| fun (a2 : Addr) =>
 T.need ((0 : Int) ≤ (16 : Int)) <|
 T.stores a2 [.string ⟨#[109, 97, 114, 107]⟩, .int .u32 (IntKind.wrap .u32 ((IntKind.wrap .u32 ((IntKind.wrap .u32 n0) * (65536 : Int))) + (IntKind.wrap .u32 n1)))] <|
 T.loads a2 [.string, .int .u32] <| fun (s3 : ByteArray) (n4 : Int) =>
 T.ret (.agg #[.string s3, .int .u32 n4])
theorem t_spandrellaw11_mark_eq (n0 : Int) (n1 : Int) : xfun Try.prog [] Try.f17 [.int .i64 n0, .int .i64 n1] = t_spandrellaw11_mark n0 n1 := by kernel_rfl

/-- The tree of 14. -/
def t_spandrelbook_Book_api_Term___Keep (p0 : Option Addr) (pp10 : Option Addr) (ll10 cc10 : Nat) : T :=
 T.join []
  (T.osome p0 <| fun (a2 : Addr) =>
  T.loads a2 [.slice 33] <| fun (p3 : Option Addr) (l4 : Nat) (l5 : Nat) =>
  T.sem Try.prog (Instr.buildSlice 49 1 #[(0, .slice pp10 ll10 cc10)]) false [(false, [.slice 0])] <| fun (p6 : Option Addr) (l7 : Nat) (l8 : Nat) =>
  T.sem Try.prog (Builtin.append_ #[49, 49] 49 #[.slice p3 l4 l5, .slice p6 l7 l8]) false [(false, [.slice 0])] <| fun (p9 : Option Addr) (l10 : Nat) (l11 : Nat) =>
  T.osome p0 <| fun (a12 : Addr) =>
  T.stores a12 [.slice p9 l10 l11] <|
  T.again 0 []) <| T.join []
  (T.osome p0 <| fun (a2 : Addr) =>
  T.loads (a2.add 1) [.slice 33] <| fun (p3 : Option Addr) (l4 : Nat) (l5 : Nat) =>
  T.sem Try.prog (Builtin.append_ #[33, 33] 33 #[.slice none 0 0, .slice pp10 ll10 cc10]) false [(false, [.slice 0])] <| fun (p6 : Option Addr) (l7 : Nat) (l8 : Nat) =>
  T.stable [((a2.add 1), [.slice p3 l4 l5])] <|
  T.sem Try.prog (Instr.buildSlice 49 1 #[(0, .slice p6 l7 l8)]) false [(false, [.slice 0])] <| fun (p9 : Option Addr) (l10 : Nat) (l11 : Nat) =>
  T.stable [((a2.add 1), [.slice p3 l4 l5])] <|
  T.sem Try.prog (Builtin.append_ #[49, 49] 49 #[.slice p3 l4 l5, .slice p9 l10 l11]) false [(false, [.slice 0])] <| fun (p12 : Option Addr) (l13 : Nat) (l14 : Nat) =>
  T.osome p0 <| fun (a15 : Addr) =>
  T.stores (a15.add 1) [.slice p12 l13 l14] <|
  T.again 0 []) <| T.osome p0 <| fun (a2 : Addr) =>
 T.loads (a2.add 2) [.int .i64] <| fun (n3 : Int) =>
 T.osome p0 <| fun (a4 : Addr) =>
 T.stores (a4.add 2) [.int .i64 (IntKind.wrap .i64 ((IntKind.wrap .i64 (n3 + (cc10 : Int))) + (1 : Int)))] <|
 T.loop [] [] <| T.join []
  (T.osome p0 <| fun (a5 : Addr) =>
  T.loads a5 [.slice 33] <| fun (p6 : Option Addr) (l7 : Nat) (l8 : Nat) =>
  cond (decide ((l7 : Int) > (1 : Int)))
   (T.osome p0 <| fun (a9 : Addr) =>
   T.loads (a9.add 2) [.int .i64] <| fun (n10 : Int) =>
   cond (decide (n10 > (1000000 : Int)))
    (T.again 1 [])
    (T.osome p0 <| fun (a11 : Addr) =>
    T.loads a11 [.slice 33] <| fun (p12 : Option Addr) (l13 : Nat) (l14 : Nat) =>
    cond (decide ((l13 : Int) > (4000 : Int)))
     (T.again 1 [])
     (T.ret (.tuple #[]))))
   (T.ret (.tuple #[]))) <| T.join []
  (T.osome p0 <| fun (a5 : Addr) =>
  T.loads (a5.add 3) [.bool] <| fun (b6 : Bool) =>
  cond b6
   (T.osome p0 <| fun (a7 : Addr) =>
   T.stores (a7.add 3) [.bool true] <|
   T.again 1 [])
   (T.osome p0 <| fun (a7 : Addr) =>
   T.loads a7 [.slice 33] <| fun (p8 : Option Addr) (l9 : Nat) (l10 : Nat) =>
   T.need (((0 : Int) ≤ (0 : Int)) ∧ ((0 : Int) < (l9 : Int))) <|
   T.osome p8 <| fun (a11 : Addr) =>
   T.loads a11 [.slice 40] <| fun (p12 : Option Addr) (l13 : Nat) (l14 : Nat) =>
   T.osome p0 <| fun (a15 : Addr) =>
   T.loads (a15.add 1) [.slice 33] <| fun (p16 : Option Addr) (l17 : Nat) (l18 : Nat) =>
   T.need (((0 : Int) ≤ (0 : Int)) ∧ ((0 : Int) < (l17 : Int))) <|
   T.osome p16 <| fun (a19 : Addr) =>
   T.loads a19 [.slice 40] <| fun (p20 : Option Addr) (l21 : Nat) (l22 : Nat) =>
   T.call Try.prog 33 [.slice p12 l13 l14, .slice p20 l21 l22] false [(false, [.bool])] <| fun (b23 : Bool) =>
   T.stable [((a15.add 1), [.slice p16 l17 l18]), (a7, [.slice p8 l9 l10]), ((a5.add 3), [.bool b6])] <|
   T.osome p0 <| fun (a24 : Addr) =>
   T.stores (a24.add 3) [.bool (!b23)] <|
   T.again 1 [])) <| T.osome p0 <| fun (a5 : Addr) =>
 T.loads (a5.add 2) [.int .i64] <| fun (n6 : Int) =>
 T.osome p0 <| fun (a7 : Addr) =>
 T.loads a7 [.slice 33] <| fun (p8 : Option Addr) (l9 : Nat) (l10 : Nat) =>
 T.need (((0 : Int) ≤ (0 : Int)) ∧ ((0 : Int) < (l9 : Int))) <|
 T.osome p8 <| fun (a11 : Addr) =>
 T.loads a11 [.slice 40] <| fun (p12 : Option Addr) (l13 : Nat) (l14 : Nat) =>
 T.osome p0 <| fun (a15 : Addr) =>
 T.stores (a15.add 2) [.int .i64 (IntKind.wrap .i64 ((IntKind.wrap .i64 (n6 - (l14 : Int))) - (1 : Int)))] <|
 T.osome p0 <| fun (a16 : Addr) =>
 T.loads a16 [.slice 33] <| fun (p17 : Option Addr) (l18 : Nat) (l19 : Nat) =>
 T.need (((0 : Int) ≤ (1 : Int)) ∧ (((1 : Int) ≤ (l18 : Int)) ∧ ((l18 : Int) ≤ (l19 : Int)))) <|
 T.osome p0 <| fun (a20 : Addr) =>
 T.stores a20 [.slice (if (l19 = 1) then p17 else (Option.map (fun a => Addr.add a 1) p17)) ((Int.toNat (l18 : Int)) - 1) (l19 - 1)] <|
 T.osome p0 <| fun (a21 : Addr) =>
 T.loads (a21.add 1) [.slice 33] <| fun (p22 : Option Addr) (l23 : Nat) (l24 : Nat) =>
 T.need (((0 : Int) ≤ (1 : Int)) ∧ (((1 : Int) ≤ (l23 : Int)) ∧ ((l23 : Int) ≤ (l24 : Int)))) <|
 T.osome p0 <| fun (a25 : Addr) =>
 T.stores (a25.add 1) [.slice (if (l24 = 1) then p22 else (Option.map (fun a => Addr.add a 1) p22)) ((Int.toNat (l23 : Int)) - 1) (l24 - 1)] <|
 T.again 0 []
theorem t_spandrelbook_Book_api_Term___Keep_eq (p0 : Option Addr) (pp10 : Option Addr) (ll10 cc10 : Nat) : xfun Try.prog [0, 1, 1004, 4] Try.f14 [.pointer p0, .slice pp10 ll10 cc10] = t_spandrelbook_Book_api_Term___Keep p0 pp10 ll10 cc10 := by kernel_rfl

/-- The tree of 16, at some arguments. -/
def t_spandrelbook_Book_api_Term___Apart_s17 (p0 : Option Addr) : T :=
 T.call Try.prog 35 [.pointer p0] false [(false, [.bool])] <| fun (b1 : Bool) =>
 cond (!b1)
  (T.ret (.bool false))
  (T.loop [(false, [.int .i64])] [.int .i64 (0 : Int)] <| fun (n2 : Int) =>
  T.osome p0 <| fun (a3 : Addr) =>
  T.loads a3 [.slice 33] <| fun (p4 : Option Addr) (l5 : Nat) (l6 : Nat) =>
  cond (decide (n2 < (l5 : Int)))
   (T.osome p0 <| fun (a7 : Addr) =>
   T.loads a7 [.slice 33] <| fun (p8 : Option Addr) (l9 : Nat) (l10 : Nat) =>
   T.need (((0 : Int) ≤ n2) ∧ (n2 < (l9 : Int))) <|
   T.osome p8 <| fun (a11 : Addr) =>
   T.loads (a11.add ((Int.toNat n2) * 1)) [.slice 40] <| fun (p12 : Option Addr) (l13 : Nat) (l14 : Nat) =>
   T.osome p0 <| fun (a15 : Addr) =>
   T.loads a15 [.slice 33] <| fun (p16 : Option Addr) (l17 : Nat) (l18 : Nat) =>
   T.need (((0 : Int) ≤ n2) ∧ (n2 < (l17 : Int))) <|
   T.osome p16 <| fun (a19 : Addr) =>
   T.loads (a19.add ((Int.toNat n2) * 1)) [.slice 40] <| fun (p20 : Option Addr) (l21 : Nat) (l22 : Nat) =>
   T.need (((0 : Int) ≤ (0 : Int)) ∧ (((0 : Int) ≤ (l22 : Int)) ∧ ((l22 : Int) ≤ (l14 : Int)))) <|
   T.loop [(false, [.int .i64])] [.int .i64 (0 : Int)] <| fun (n23 : Int) =>
   cond (decide (n23 < ((((Int.toNat (l22 : Int)) - 0) : Nat) : Int)))
    (T.callv Try.prog (.func (Fn.func 17) #[] #[]) [.int .i64 n2, .int .i64 n23] false [(true, [.string, .int .u32])] <| fun (s24 : ByteArray) (n25 : Int) =>
    T.need (((0 : Int) ≤ n23) ∧ (n23 < ((((Int.toNat (l22 : Int)) - 0) : Nat) : Int))) <|
    T.osome (if (l14 = 0) then p12 else (Option.map (fun a => Addr.add a 0) p12)) <| fun (a26 : Addr) =>
    T.stores (a26.add ((Int.toNat n23) * 2)) [.string s24, .int .u32 n25] <|
    T.again 1 [.int .i64 (IntKind.wrap .i64 (n23 + (1 : Int)))])
    (T.again 0 [.int .i64 (IntKind.wrap .i64 (n2 + (1 : Int)))]))
   (T.loop [(false, [.bool]), (false, [.int .i64])] [.bool false, .int .i64 (0 : Int)] <| fun (b7 : Bool) (n8 : Int) =>
   T.osome p0 <| fun (a9 : Addr) =>
   T.loads a9 [.slice 33] <| fun (p10 : Option Addr) (l11 : Nat) (l12 : Nat) =>
   cond (decide (n8 < (l11 : Int)))
    (T.osome p0 <| fun (a13 : Addr) =>
    T.loads a13 [.slice 33] <| fun (p14 : Option Addr) (l15 : Nat) (l16 : Nat) =>
    T.need (((0 : Int) ≤ n8) ∧ (n8 < (l15 : Int))) <|
    T.osome p14 <| fun (a17 : Addr) =>
    T.loads (a17.add ((Int.toNat n8) * 1)) [.slice 40] <| fun (p18 : Option Addr) (l19 : Nat) (l20 : Nat) =>
    T.osome p0 <| fun (a21 : Addr) =>
    T.loads a21 [.slice 33] <| fun (p22 : Option Addr) (l23 : Nat) (l24 : Nat) =>
    T.need (((0 : Int) ≤ n8) ∧ (n8 < (l23 : Int))) <|
    T.osome p22 <| fun (a25 : Addr) =>
    T.loads (a25.add ((Int.toNat n8) * 1)) [.slice 40] <| fun (p26 : Option Addr) (l27 : Nat) (l28 : Nat) =>
    T.need (((0 : Int) ≤ (0 : Int)) ∧ (((0 : Int) ≤ (l28 : Int)) ∧ ((l28 : Int) ≤ (l20 : Int)))) <|
    T.loop [(false, [.bool]), (false, [.int .i64])] [.bool b7, .int .i64 (0 : Int)] <| fun (b29 : Bool) (n30 : Int) =>
    cond (decide (n30 < ((((Int.toNat (l28 : Int)) - 0) : Nat) : Int)))
     (T.need (((0 : Int) ≤ n30) ∧ (n30 < ((((Int.toNat (l28 : Int)) - 0) : Nat) : Int))) <|
     T.osome (if (l20 = 0) then p18 else (Option.map (fun a => Addr.add a 0) p18)) <| fun (a31 : Addr) =>
     T.loads (a31.add ((Int.toNat n30) * 2)) [.string, .int .u32] <| fun (s32 : ByteArray) (n33 : Int) =>
     T.callv Try.prog (.func (Fn.func 17) #[] #[]) [.int .i64 n8, .int .i64 n30] false [(true, [.string, .int .u32])] <| fun (s34 : ByteArray) (n35 : Int) =>
     T.stable [((a31.add ((Int.toNat n30) * 2)), [.string s32, .int .u32 n33])] <|
     T.sem Try.prog (Sx.cmpS (BinOp.neq) 40 (Operand.tmp 86) (Operand.tmp 90) (.agg #[.string s32, .int .u32 n33]) (.agg #[.string s34, .int .u32 n35])) false [(false, [.bool])] <| fun (b36 : Bool) =>
     cond b36
      (T.ret (.bool false))
      (T.again 2 [.bool b29, .int .i64 (IntKind.wrap .i64 (n30 + (1 : Int)))]))
     (T.again 1 [.bool b29, .int .i64 (IntKind.wrap .i64 (n8 + (1 : Int)))]))
    (T.osome p0 <| fun (a13 : Addr) =>
    T.stores a13 [.slice none 0 0] <|
    T.osome p0 <| fun (a14 : Addr) =>
    T.stores (a14.add 1) [.slice none 0 0] <|
    T.osome p0 <| fun (a15 : Addr) =>
    T.stores (a15.add 2) [.int .i64 (0 : Int)] <|
    T.ret (.bool true))))
theorem t_spandrelbook_Book_api_Term___Apart_s17_eq (p0 : Option Addr) : xfun Try.prog [] Try.f16 [.pointer p0, .func (Fn.func 17) #[] #[]] = t_spandrelbook_Book_api_Term___Apart_s17 p0 := by kernel_rfl

/-- The tree of 22. -/
def t_spandrelbook_Within (n0 : Int) (n1 : Int) (n2 : Int) : T :=
 T.need ((IntKind.wrap .i64 ((IntKind.wrap .i64 (n2 - n1)) + (1 : Int))) ≠ (0 : Int)) <|
 cond (decide ((Int.tmod n0 (IntKind.wrap .i64 ((IntKind.wrap .i64 (n2 - n1)) + (1 : Int)))) < (0 : Int)))
  (T.ret (.int .i64 (IntKind.wrap .i64 (n1 + (IntKind.wrap .i64 ((IntKind.wrap .i64 ((IntKind.wrap .i64 ((Int.tmod n0 (IntKind.wrap .i64 ((IntKind.wrap .i64 (n2 - n1)) + (1 : Int)))) + n2)) - n1)) + (1 : Int)))))))
  (T.ret (.int .i64 (IntKind.wrap .i64 (n1 + (Int.tmod n0 (IntKind.wrap .i64 ((IntKind.wrap .i64 (n2 - n1)) + (1 : Int))))))))
theorem t_spandrelbook_Within_eq (n0 : Int) (n1 : Int) (n2 : Int) : xfun Try.prog [] Try.f22 [.int .i64 n0, .int .i64 n1, .int .i64 n2] = t_spandrelbook_Within n0 n1 n2 := by kernel_rfl

/-- The tree of 21. -/
def t_spandrelbook_Same_string_ (pp00 : Option Addr) (ll00 cc00 : Nat) (pp10 : Option Addr) (ll10 cc10 : Nat) : T :=
 cond ((ll00 : Int) != (ll10 : Int))
  (T.ret (.bool false))
  (T.loop [(false, [.bool]), (false, [.int .i64])] [.bool false, .int .i64 (0 : Int)] <| fun (b2 : Bool) (n3 : Int) =>
  cond (decide (n3 < (ll00 : Int)))
   (T.need (((0 : Int) ≤ n3) ∧ (n3 < (ll00 : Int))) <|
   T.osome pp00 <| fun (a4 : Addr) =>
   T.loads (a4.add ((Int.toNat n3) * 1)) [.string] <| fun (s5 : ByteArray) =>
   T.need (((0 : Int) ≤ n3) ∧ (n3 < (ll10 : Int))) <|
   T.osome pp10 <| fun (a6 : Addr) =>
   T.loads (a6.add ((Int.toNat n3) * 1)) [.string] <| fun (s7 : ByteArray) =>
   cond (!((ByteArray.toList s5) == (ByteArray.toList s7)))
    (T.ret (.bool false))
    (T.again 0 [.bool b2, .int .i64 (IntKind.wrap .i64 (n3 + (1 : Int)))]))
   (T.ret (.bool true)))
theorem t_spandrelbook_Same_string__eq (pp00 : Option Addr) (ll00 cc00 : Nat) (pp10 : Option Addr) (ll10 cc10 : Nat) : xfun Try.prog [] Try.f21 [.slice pp00 ll00 cc00, .slice pp10 ll10 cc10] = t_spandrelbook_Same_string_ pp00 ll00 cc00 pp10 ll10 cc10 := by kernel_rfl

/-- The tree of 29. -/
def t_slices_Clone___api_Term_api_Term_ (pp00 : Option Addr) (ll00 cc00 : Nat) : T :=
 cond (/-?Option.isSome.match_1-/ match pp00 with
 | some val => false
 | none => true)
  (T.ret (.slice none 0 0))
  (T.sem Try.prog (Instr.buildSlice 33 0 #[]) false [(false, [.slice 0])] <| fun (p1 : Option Addr) (l2 : Nat) (l3 : Nat) =>
  T.sem Try.prog (Builtin.append_ #[33, 33] 33 #[.slice p1 l2 l3, .slice pp00 ll00 cc00]) false [(false, [.slice 0])] <| fun (p4 : Option Addr) (l5 : Nat) (l6 : Nat) =>
  T.ret (.slice p4 l5 l6))
theorem t_slices_Clone___api_Term_api_Term__eq (pp00 : Option Addr) (ll00 cc00 : Nat) : xfun Try.prog [] Try.f29 [.slice pp00 ll00 cc00] = t_slices_Clone___api_Term_api_Term_ pp00 ll00 cc00 := by kernel_rfl

/-- The tree of 32. -/
def t_spandrelkeep_CopyLin (pp00 : Option Addr) (ll00 cc00 : Nat) (n1_0 : Int) : T :=
 T.new [.slice pp00 ll00 cc00, .int .u32 n1_0] 36 <| fun (a1 : Addr) =>
 T.new [.slice none 0 0, .int .u32 (0 : Int)] 36 <| fun (a2 : Addr) =>
 T.loads a1 [.slice 40] <| fun (p3 : Option Addr) (l4 : Nat) (l5 : Nat) =>
 T.loads (a1.add 1) [.int .u32] <| fun (n6 : Int) =>
 T.sem Try.prog (Instr.buildSlice 33 0 #[]) false [(false, [.slice 0])] <| fun (p7 : Option Addr) (l8 : Nat) (l9 : Nat) =>
 T.stable [((a1.add 1), [.int .u32 n6]), (a1, [.slice p3 l4 l5])] <|
 T.sem Try.prog (Builtin.append_ #[33, 33] 33 #[.slice p7 l8 l9, .slice p3 l4 l5]) false [(false, [.slice 0])] <| fun (p10 : Option Addr) (l11 : Nat) (l12 : Nat) =>
 T.stable [((a1.add 1), [.int .u32 n6])] <|
 T.stores a2 [.slice p10 l11 l12, .int .u32 n6] <|
 T.loads a2 [.slice 40, .int .u32] <| fun (p13 : Option Addr) (l14 : Nat) (l15 : Nat) (n16 : Int) =>
 T.ret (.agg #[.slice p13 l14 l15, .int .u32 n16])
theorem t_spandrelkeep_CopyLin_eq (pp00 : Option Addr) (ll00 cc00 : Nat) (n1_0 : Int) : xfun Try.prog [] Try.f32 [.agg #[.slice pp00 ll00 cc00, .int .u32 n1_0]] = t_spandrelkeep_CopyLin pp00 ll00 cc00 n1_0 := by kernel_rfl

/-- The tree of 31. -/
def t_spandrelkeep_CopyItems (pp00 : Option Addr) (ll00 cc00 : Nat) : T :=
 T.sem Try.prog (Instr.makeSlice 45 (.int .i64 (ll00 : Int)) (.int .i64 (ll00 : Int))) false [(false, [.slice 0])] <| fun (p1 : Option Addr) (l2 : Nat) (l3 : Nat) =>
 T.loop [(false, [.int .i64])] [.int .i64 (0 : Int)] <| fun (n4 : Int) =>
 cond (decide (n4 < (ll00 : Int)))
  (T.need (((0 : Int) ≤ n4) ∧ (n4 < (ll00 : Int))) <|
  T.osome pp00 <| fun (a5 : Addr) =>
  T.loads (a5.add ((Int.toNat n4) * 10)) [.int .i64, .string, .int .i64, .int .i64, .int .i64, .int .i32, .int .i64, .slice 40, .int .u32, .int .i64] <| fun (n6 : Int) (s7 : ByteArray) (n8 : Int) (n9 : Int) (n10 : Int) (n11 : Int) (n12 : Int) (p13 : Option Addr) (l14 : Nat) (l15 : Nat) (n16 : Int) (n17 : Int) =>
  T.need (((0 : Int) ≤ n4) ∧ (n4 < (l2 : Int))) <|
  T.osome p1 <| fun (a18 : Addr) =>
  T.stores (a18.add ((Int.toNat n4) * 10)) [.int .i64 n6, .string s7, .int .i64 n8, .int .i64 n9, .int .i64 n10, .int .i32 n11, .int .i64 n12, .slice p13 l14 l15, .int .u32 n16, .int .i64 n17] <|
  T.need (((0 : Int) ≤ n4) ∧ (n4 < (ll00 : Int))) <|
  T.osome pp00 <| fun (a19 : Addr) =>
  T.loads ((a19.add ((Int.toNat n4) * 10)).add 7) [.slice 40, .int .u32] <| fun (p20 : Option Addr) (l21 : Nat) (l22 : Nat) (n23 : Int) =>
  T.call Try.prog 32 [.agg #[.slice p20 l21 l22, .int .u32 n23]] false [(true, [.slice 40, .int .u32])] <| fun (p24 : Option Addr) (l25 : Nat) (l26 : Nat) (n27 : Int) =>
  T.need (((0 : Int) ≤ n4) ∧ (n4 < (l2 : Int))) <|
  T.osome p1 <| fun (a28 : Addr) =>
  T.stores ((a28.add ((Int.toNat n4) * 10)).add 7) [.slice p24 l25 l26, .int .u32 n27] <|
  T.again 0 [.int .i64 (IntKind.wrap .i64 (n4 + (1 : Int)))])
  (T.ret (.slice p1 l2 l3))
theorem t_spandrelkeep_CopyItems_eq (pp00 : Option Addr) (ll00 cc00 : Nat) : xfun Try.prog [] Try.f31 [.slice pp00 ll00 cc00] = t_spandrelkeep_CopyItems pp00 ll00 cc00 := by kernel_rfl

/-- The tree of 13. -/
def t_spandrelkeep_CopyUnit (pp00 : Option Addr) (ll00 cc00 : Nat) (pp01 : Option Addr) (ll01 cc01 : Nat) (pp02 : Option Addr) (ll02 cc02 : Nat) (pp03 : Option Addr) (ll03 cc03 : Nat) : T :=
 T.new [.slice pp00 ll00 cc00, .slice pp01 ll01 cc01, .slice pp02 ll02 cc02, .slice pp03 ll03 cc03] 47 <| fun (a1 : Addr) =>
 T.new [.slice none 0 0, .slice none 0 0, .slice none 0 0, .slice none 0 0] 47 <| fun (a2 : Addr) =>
 T.loads a1 [.slice 94] <| fun (p3 : Option Addr) (l4 : Nat) (l5 : Nat) =>
 T.loads (a1.add 1) [.slice 94] <| fun (p6 : Option Addr) (l7 : Nat) (l8 : Nat) =>
 T.loads (a1.add 3) [.slice 9] <| fun (p9 : Option Addr) (l10 : Nat) (l11 : Nat) =>
 T.all [ (T.call Try.prog 31 [.slice p3 l4 l5] false [(false, [.slice 94])] <| fun (p12 : Option Addr) (l13 : Nat) (l14 : Nat) =>
  T.stable [((a1.add 3), [.slice p9 l10 l11]), ((a1.add 1), [.slice p6 l7 l8])] <|
  T.all [ (T.call Try.prog 31 [.slice p6 l7 l8] false [(false, [.slice 94])] <| fun (p15 : Option Addr) (l16 : Nat) (l17 : Nat) =>
   T.stable [((a1.add 3), [.slice p9 l10 l11]), (a1, [.slice p3 l4 l5])] <|
   T.all [ (T.sem Try.prog (Instr.buildSlice 29 0 #[]) false [(false, [.slice 0])] <| fun (p18 : Option Addr) (l19 : Nat) (l20 : Nat) =>
    T.stable [((a1.add 3), [.slice p9 l10 l11]), ((a1.add 1), [.slice p6 l7 l8]), (a1, [.slice p3 l4 l5])] <|
    T.all [ (T.sem Try.prog (Builtin.append_ #[29, 29] 29 #[.slice p18 l19 l20, .slice p9 l10 l11]) false [(false, [.slice 0])] <| fun (p21 : Option Addr) (l22 : Nat) (l23 : Nat) =>
     T.stable [((a1.add 1), [.slice p6 l7 l8]), (a1, [.slice p3 l4 l5])] <|
     T.new [.slice none 0 0, .slice none 0 0, .slice none 0 0, .slice none 0 0] 47 <| fun (a24 : Addr) =>
     T.stable [((a1.add 3), [.slice p9 l10 l11]), ((a1.add 1), [.slice p6 l7 l8]), (a1, [.slice p3 l4 l5])] <|
     T.stores a24 [.slice p12 l13 l14, .slice p15 l16 l17, .slice none 0 0, .slice p21 l22 l23] <|
     T.loop [(false, [.int .i64])] [.int .i64 (0 : Int)] <| fun (n25 : Int) =>
     T.loads (a1.add 2) [.slice 38] <| fun (p26 : Option Addr) (l27 : Nat) (l28 : Nat) =>
     cond (decide (n25 < (l27 : Int)))
      (T.loads (a24.add 2) [.slice 38] <| fun (p29 : Option Addr) (l30 : Nat) (l31 : Nat) =>
      T.loads (a1.add 2) [.slice 38] <| fun (p32 : Option Addr) (l33 : Nat) (l34 : Nat) =>
      T.need (((0 : Int) ≤ n25) ∧ (n25 < (l33 : Int))) <|
      T.osome p32 <| fun (a35 : Addr) =>
      T.loads (a35.add ((Int.toNat n25) * 3)) [.string] <| fun (s36 : ByteArray) =>
      T.loads (a1.add 2) [.slice 38] <| fun (p37 : Option Addr) (l38 : Nat) (l39 : Nat) =>
      T.need (((0 : Int) ≤ n25) ∧ (n25 < (l38 : Int))) <|
      T.osome p37 <| fun (a40 : Addr) =>
      T.loads ((a40.add ((Int.toNat n25) * 3)).add 1) [.slice 40, .int .u32] <| fun (p41 : Option Addr) (l42 : Nat) (l43 : Nat) (n44 : Int) =>
      T.call Try.prog 32 [.agg #[.slice p41 l42 l43, .int .u32 n44]] false [(true, [.slice 40, .int .u32])] <| fun (p45 : Option Addr) (l46 : Nat) (l47 : Nat) (n48 : Int) =>
      T.stable [((a1.add 2), [.slice p37 l38 l39]), ((a35.add ((Int.toNat n25) * 3)), [.string s36]), ((a1.add 2), [.slice p32 l33 l34]), ((a24.add 2), [.slice p29 l30 l31])] <|
      T.sem Try.prog (Instr.buildSlice 22 1 #[(0, .agg #[.string s36, .slice p45 l46 l47, .int .u32 n48])]) false [(false, [.slice 0])] <| fun (p49 : Option Addr) (l50 : Nat) (l51 : Nat) =>
      T.stable [(((a40.add ((Int.toNat n25) * 3)).add 1), [.slice p41 l42 l43, .int .u32 n44]), ((a1.add 2), [.slice p37 l38 l39]), ((a35.add ((Int.toNat n25) * 3)), [.string s36]), ((a1.add 2), [.slice p32 l33 l34]), ((a24.add 2), [.slice p29 l30 l31])] <|
      T.sem Try.prog (Builtin.append_ #[22, 22] 22 #[.slice p29 l30 l31, .slice p49 l50 l51]) false [(false, [.slice 0])] <| fun (p52 : Option Addr) (l53 : Nat) (l54 : Nat) =>
      T.stable [(((a40.add ((Int.toNat n25) * 3)).add 1), [.slice p41 l42 l43, .int .u32 n44]), ((a1.add 2), [.slice p37 l38 l39]), ((a35.add ((Int.toNat n25) * 3)), [.string s36]), ((a1.add 2), [.slice p32 l33 l34])] <|
      T.stores (a24.add 2) [.slice p52 l53 l54] <|
      T.again 0 [.int .i64 (IntKind.wrap .i64 (n25 + (1 : Int)))])
      (T.loads a24 [.slice 94, .slice 94, .slice 38, .slice 9] <| fun (p29 : Option Addr) (l30 : Nat) (l31 : Nat) (p32 : Option Addr) (l33 : Nat) (l34 : Nat) (p35 : Option Addr) (l36 : Nat) (l37 : Nat) (p38 : Option Addr) (l39 : Nat) (l40 : Nat) =>
      T.stores a2 [.slice p29 l30 l31, .slice p32 l33 l34, .slice p35 l36 l37, .slice p38 l39 l40] <|
      T.loads a2 [.slice 94, .slice 94, .slice 38, .slice 9] <| fun (p41 : Option Addr) (l42 : Nat) (l43 : Nat) (p44 : Option Addr) (l45 : Nat) (l46 : Nat) (p47 : Option Addr) (l48 : Nat) (l49 : Nat) (p50 : Option Addr) (l51 : Nat) (l52 : Nat) =>
      T.ret (.agg #[.slice p41 l42 l43, .slice p44 l45 l46, .slice p47 l48 l49, .slice p50 l51 l52]))),
     (T.new [.slice none 0 0, .slice none 0 0, .slice none 0 0, .slice none 0 0] 47 <| fun (a21 : Addr) =>
     T.stable [((a1.add 3), [.slice p9 l10 l11]), ((a1.add 1), [.slice p6 l7 l8]), (a1, [.slice p3 l4 l5])] <|
     T.sem Try.prog (Builtin.append_ #[29, 29] 29 #[.slice p18 l19 l20, .slice p9 l10 l11]) false [(false, [.slice 0])] <| fun (p22 : Option Addr) (l23 : Nat) (l24 : Nat) =>
     T.stable [((a1.add 1), [.slice p6 l7 l8]), (a1, [.slice p3 l4 l5])] <|
     T.stores a21 [.slice p12 l13 l14, .slice p15 l16 l17, .slice none 0 0, .slice p22 l23 l24] <|
     T.loop [(false, [.int .i64])] [.int .i64 (0 : Int)] <| fun (n25 : Int) =>
     T.loads (a1.add 2) [.slice 38] <| fun (p26 : Option Addr) (l27 : Nat) (l28 : Nat) =>
     cond (decide (n25 < (l27 : Int)))
      (T.loads (a21.add 2) [.slice 38] <| fun (p29 : Option Addr) (l30 : Nat) (l31 : Nat) =>
      T.loads (a1.add 2) [.slice 38] <| fun (p32 : Option Addr) (l33 : Nat) (l34 : Nat) =>
      T.need (((0 : Int) ≤ n25) ∧ (n25 < (l33 : Int))) <|
      T.osome p32 <| fun (a35 : Addr) =>
      T.loads (a35.add ((Int.toNat n25) * 3)) [.string] <| fun (s36 : ByteArray) =>
      T.loads (a1.add 2) [.slice 38] <| fun (p37 : Option Addr) (l38 : Nat) (l39 : Nat) =>
      T.need (((0 : Int) ≤ n25) ∧ (n25 < (l38 : Int))) <|
      T.osome p37 <| fun (a40 : Addr) =>
      T.loads ((a40.add ((Int.toNat n25) * 3)).add 1) [.slice 40, .int .u32] <| fun (p41 : Option Addr) (l42 : Nat) (l43 : Nat) (n44 : Int) =>
      T.call Try.prog 32 [.agg #[.slice p41 l42 l43, .int .u32 n44]] false [(true, [.slice 40, .int .u32])] <| fun (p45 : Option Addr) (l46 : Nat) (l47 : Nat) (n48 : Int) =>
      T.stable [((a1.add 2), [.slice p37 l38 l39]), ((a35.add ((Int.toNat n25) * 3)), [.string s36]), ((a1.add 2), [.slice p32 l33 l34]), ((a21.add 2), [.slice p29 l30 l31])] <|
      T.sem Try.prog (Instr.buildSlice 22 1 #[(0, .agg #[.string s36, .slice p45 l46 l47, .int .u32 n48])]) false [(false, [.slice 0])] <| fun (p49 : Option Addr) (l50 : Nat) (l51 : Nat) =>
      T.stable [(((a40.add ((Int.toNat n25) * 3)).add 1), [.slice p41 l42 l43, .int .u32 n44]), ((a1.add 2), [.slice p37 l38 l39]), ((a35.add ((Int.toNat n25) * 3)), [.string s36]), ((a1.add 2), [.slice p32 l33 l34]), ((a21.add 2), [.slice p29 l30 l31])] <|
      T.sem Try.prog (Builtin.append_ #[22, 22] 22 #[.slice p29 l30 l31, .slice p49 l50 l51]) false [(false, [.slice 0])] <| fun (p52 : Option Addr) (l53 : Nat) (l54 : Nat) =>
      T.stable [(((a40.add ((Int.toNat n25) * 3)).add 1), [.slice p41 l42 l43, .int .u32 n44]), ((a1.add 2), [.slice p37 l38 l39]), ((a35.add ((Int.toNat n25) * 3)), [.string s36]), ((a1.add 2), [.slice p32 l33 l34])] <|
      T.stores (a21.add 2) [.slice p52 l53 l54] <|
      T.again 0 [.int .i64 (IntKind.wrap .i64 (n25 + (1 : Int)))])
      (T.loads a21 [.slice 94, .slice 94, .slice 38, .slice 9] <| fun (p29 : Option Addr) (l30 : Nat) (l31 : Nat) (p32 : Option Addr) (l33 : Nat) (l34 : Nat) (p35 : Option Addr) (l36 : Nat) (l37 : Nat) (p38 : Option Addr) (l39 : Nat) (l40 : Nat) =>
      T.stores a2 [.slice p29 l30 l31, .slice p32 l33 l34, .slice p35 l36 l37, .slice p38 l39 l40] <|
      T.loads a2 [.slice 94, .slice 94, .slice 38, .slice 9] <| fun (p41 : Option Addr) (l42 : Nat) (l43 : Nat) (p44 : Option Addr) (l45 : Nat) (l46 : Nat) (p47 : Option Addr) (l48 : Nat) (l49 : Nat) (p50 : Option Addr) (l51 : Nat) (l52 : Nat) =>
      T.ret (.agg #[.slice p41 l42 l43, .slice p44 l45 l46, .slice p47 l48 l49, .slice p50 l51 l52])))]),
    (T.new [.slice none 0 0, .slice none 0 0, .slice none 0 0, .slice none 0 0] 47 <| fun (a18 : Addr) =>
    T.stable [((a1.add 3), [.slice p9 l10 l11]), ((a1.add 1), [.slice p6 l7 l8]), (a1, [.slice p3 l4 l5])] <|
    T.sem Try.prog (Instr.buildSlice 29 0 #[]) false [(false, [.slice 0])] <| fun (p19 : Option Addr) (l20 : Nat) (l21 : Nat) =>
    T.stable [((a1.add 3), [.slice p9 l10 l11]), ((a1.add 1), [.slice p6 l7 l8]), (a1, [.slice p3 l4 l5])] <|
    T.sem Try.prog (Builtin.append_ #[29, 29] 29 #[.slice p19 l20 l21, .slice p9 l10 l11]) false [(false, [.slice 0])] <| fun (p22 : Option Addr) (l23 : Nat) (l24 : Nat) =>
    T.stable [((a1.add 1), [.slice p6 l7 l8]), (a1, [.slice p3 l4 l5])] <|
    T.stores a18 [.slice p12 l13 l14, .slice p15 l16 l17, .slice none 0 0, .slice p22 l23 l24] <|
    T.loop [(false, [.int .i64])] [.int .i64 (0 : Int)] <| fun (n25 : Int) =>
    T.loads (a1.add 2) [.slice 38] <| fun (p26 : Option Addr) (l27 : Nat) (l28 : Nat) =>
    cond (decide (n25 < (l27 : Int)))
     (T.loads (a18.add 2) [.slice 38] <| fun (p29 : Option Addr) (l30 : Nat) (l31 : Nat) =>
     T.loads (a1.add 2) [.slice 38] <| fun (p32 : Option Addr) (l33 : Nat) (l34 : Nat) =>
     T.need (((0 : Int) ≤ n25) ∧ (n25 < (l33 : Int))) <|
     T.osome p32 <| fun (a35 : Addr) =>
     T.loads (a35.add ((Int.toNat n25) * 3)) [.string] <| fun (s36 : ByteArray) =>
     T.loads (a1.add 2) [.slice 38] <| fun (p37 : Option Addr) (l38 : Nat) (l39 : Nat) =>
     T.need (((0 : Int) ≤ n25) ∧ (n25 < (l38 : Int))) <|
     T.osome p37 <| fun (a40 : Addr) =>
     T.loads ((a40.add ((Int.toNat n25) * 3)).add 1) [.slice 40, .int .u32] <| fun (p41 : Option Addr) (l42 : Nat) (l43 : Nat) (n44 : Int) =>
     T.call Try.prog 32 [.agg #[.slice p41 l42 l43, .int .u32 n44]] false [(true, [.slice 40, .int .u32])] <| fun (p45 : Option Addr) (l46 : Nat) (l47 : Nat) (n48 : Int) =>
     T.stable [((a1.add 2), [.slice p37 l38 l39]), ((a35.add ((Int.toNat n25) * 3)), [.string s36]), ((a1.add 2), [.slice p32 l33 l34]), ((a18.add 2), [.slice p29 l30 l31])] <|
     T.sem Try.prog (Instr.buildSlice 22 1 #[(0, .agg #[.string s36, .slice p45 l46 l47, .int .u32 n48])]) false [(false, [.slice 0])] <| fun (p49 : Option Addr) (l50 : Nat) (l51 : Nat) =>
     T.stable [(((a40.add ((Int.toNat n25) * 3)).add 1), [.slice p41 l42 l43, .int .u32 n44]), ((a1.add 2), [.slice p37 l38 l39]), ((a35.add ((Int.toNat n25) * 3)), [.string s36]), ((a1.add 2), [.slice p32 l33 l34]), ((a18.add 2), [.slice p29 l30 l31])] <|
     T.sem Try.prog (Builtin.append_ #[22, 22] 22 #[.slice p29 l30 l31, .slice p49 l50 l51]) false [(false, [.slice 0])] <| fun (p52 : Option Addr) (l53 : Nat) (l54 : Nat) =>
     T.stable [(((a40.add ((Int.toNat n25) * 3)).add 1), [.slice p41 l42 l43, .int .u32 n44]), ((a1.add 2), [.slice p37 l38 l39]), ((a35.add ((Int.toNat n25) * 3)), [.string s36]), ((a1.add 2), [.slice p32 l33 l34])] <|
     T.stores (a18.add 2) [.slice p52 l53 l54] <|
     T.again 0 [.int .i64 (IntKind.wrap .i64 (n25 + (1 : Int)))])
     (T.loads a18 [.slice 94, .slice 94, .slice 38, .slice 9] <| fun (p29 : Option Addr) (l30 : Nat) (l31 : Nat) (p32 : Option Addr) (l33 : Nat) (l34 : Nat) (p35 : Option Addr) (l36 : Nat) (l37 : Nat) (p38 : Option Addr) (l39 : Nat) (l40 : Nat) =>
     T.stores a2 [.slice p29 l30 l31, .slice p32 l33 l34, .slice p35 l36 l37, .slice p38 l39 l40] <|
     T.loads a2 [.slice 94, .slice 94, .slice 38, .slice 9] <| fun (p41 : Option Addr) (l42 : Nat) (l43 : Nat) (p44 : Option Addr) (l45 : Nat) (l46 : Nat) (p47 : Option Addr) (l48 : Nat) (l49 : Nat) (p50 : Option Addr) (l51 : Nat) (l52 : Nat) =>
     T.ret (.agg #[.slice p41 l42 l43, .slice p44 l45 l46, .slice p47 l48 l49, .slice p50 l51 l52])))]),
   (T.sem Try.prog (Instr.buildSlice 29 0 #[]) false [(false, [.slice 0])] <| fun (p15 : Option Addr) (l16 : Nat) (l17 : Nat) =>
   T.stable [((a1.add 3), [.slice p9 l10 l11]), ((a1.add 1), [.slice p6 l7 l8]), (a1, [.slice p3 l4 l5])] <|
   T.all [ (T.call Try.prog 31 [.slice p6 l7 l8] false [(false, [.slice 94])] <| fun (p18 : Option Addr) (l19 : Nat) (l20 : Nat) =>
    T.stable [((a1.add 3), [.slice p9 l10 l11]), (a1, [.slice p3 l4 l5])] <|
    T.all [ (T.sem Try.prog (Builtin.append_ #[29, 29] 29 #[.slice p15 l16 l17, .slice p9 l10 l11]) false [(false, [.slice 0])] <| fun (p21 : Option Addr) (l22 : Nat) (l23 : Nat) =>
     T.stable [((a1.add 1), [.slice p6 l7 l8]), (a1, [.slice p3 l4 l5])] <|
     T.new [.slice none 0 0, .slice none 0 0, .slice none 0 0, .slice none 0 0] 47 <| fun (a24 : Addr) =>
     T.stable [((a1.add 3), [.slice p9 l10 l11]), ((a1.add 1), [.slice p6 l7 l8]), (a1, [.slice p3 l4 l5])] <|
     T.stores a24 [.slice p12 l13 l14, .slice p18 l19 l20, .slice none 0 0, .slice p21 l22 l23] <|
     T.loop [(false, [.int .i64])] [.int .i64 (0 : Int)] <| fun (n25 : Int) =>
     T.loads (a1.add 2) [.slice 38] <| fun (p26 : Option Addr) (l27 : Nat) (l28 : Nat) =>
     cond (decide (n25 < (l27 : Int)))
      (T.loads (a24.add 2) [.slice 38] <| fun (p29 : Option Addr) (l30 : Nat) (l31 : Nat) =>
      T.loads (a1.add 2) [.slice 38] <| fun (p32 : Option Addr) (l33 : Nat) (l34 : Nat) =>
      T.need (((0 : Int) ≤ n25) ∧ (n25 < (l33 : Int))) <|
      T.osome p32 <| fun (a35 : Addr) =>
      T.loads (a35.add ((Int.toNat n25) * 3)) [.string] <| fun (s36 : ByteArray) =>
      T.loads (a1.add 2) [.slice 38] <| fun (p37 : Option Addr) (l38 : Nat) (l39 : Nat) =>
      T.need (((0 : Int) ≤ n25) ∧ (n25 < (l38 : Int))) <|
      T.osome p37 <| fun (a40 : Addr) =>
      T.loads ((a40.add ((Int.toNat n25) * 3)).add 1) [.slice 40, .int .u32] <| fun (p41 : Option Addr) (l42 : Nat) (l43 : Nat) (n44 : Int) =>
      T.call Try.prog 32 [.agg #[.slice p41 l42 l43, .int .u32 n44]] false [(true, [.slice 40, .int .u32])] <| fun (p45 : Option Addr) (l46 : Nat) (l47 : Nat) (n48 : Int) =>
      T.stable [((a1.add 2), [.slice p37 l38 l39]), ((a35.add ((Int.toNat n25) * 3)), [.string s36]), ((a1.add 2), [.slice p32 l33 l34]), ((a24.add 2), [.slice p29 l30 l31])] <|
      T.sem Try.prog (Instr.buildSlice 22 1 #[(0, .agg #[.string s36, .slice p45 l46 l47, .int .u32 n48])]) false [(false, [.slice 0])] <| fun (p49 : Option Addr) (l50 : Nat) (l51 : Nat) =>
      T.stable [(((a40.add ((Int.toNat n25) * 3)).add 1), [.slice p41 l42 l43, .int .u32 n44]), ((a1.add 2), [.slice p37 l38 l39]), ((a35.add ((Int.toNat n25) * 3)), [.string s36]), ((a1.add 2), [.slice p32 l33 l34]), ((a24.add 2), [.slice p29 l30 l31])] <|
      T.sem Try.prog (Builtin.append_ #[22, 22] 22 #[.slice p29 l30 l31, .slice p49 l50 l51]) false [(false, [.slice 0])] <| fun (p52 : Option Addr) (l53 : Nat) (l54 : Nat) =>
      T.stable [(((a40.add ((Int.toNat n25) * 3)).add 1), [.slice p41 l42 l43, .int .u32 n44]), ((a1.add 2), [.slice p37 l38 l39]), ((a35.add ((Int.toNat n25) * 3)), [.string s36]), ((a1.add 2), [.slice p32 l33 l34])] <|
      T.stores (a24.add 2) [.slice p52 l53 l54] <|
      T.again 0 [.int .i64 (IntKind.wrap .i64 (n25 + (1 : Int)))])
      (T.loads a24 [.slice 94, .slice 94, .slice 38, .slice 9] <| fun (p29 : Option Addr) (l30 : Nat) (l31 : Nat) (p32 : Option Addr) (l33 : Nat) (l34 : Nat) (p35 : Option Addr) (l36 : Nat) (l37 : Nat) (p38 : Option Addr) (l39 : Nat) (l40 : Nat) =>
      T.stores a2 [.slice p29 l30 l31, .slice p32 l33 l34, .slice p35 l36 l37, .slice p38 l39 l40] <|
      T.loads a2 [.slice 94, .slice 94, .slice 38, .slice 9] <| fun (p41 : Option Addr) (l42 : Nat) (l43 : Nat) (p44 : Option Addr) (l45 : Nat) (l46 : Nat) (p47 : Option Addr) (l48 : Nat) (l49 : Nat) (p50 : Option Addr) (l51 : Nat) (l52 : Nat) =>
      T.ret (.agg #[.slice p41 l42 l43, .slice p44 l45 l46, .slice p47 l48 l49, .slice p50 l51 l52]))),
     (T.new [.slice none 0 0, .slice none 0 0, .slice none 0 0, .slice none 0 0] 47 <| fun (a21 : Addr) =>
     T.stable [((a1.add 3), [.slice p9 l10 l11]), ((a1.add 1), [.slice p6 l7 l8]), (a1, [.slice p3 l4 l5])] <|
     T.sem Try.prog (Builtin.append_ #[29, 29] 29 #[.slice p15 l16 l17, .slice p9 l10 l11]) false [(false, [.slice 0])] <| fun (p22 : Option Addr) (l23 : Nat) (l24 : Nat) =>
     T.stable [((a1.add 1), [.slice p6 l7 l8]), (a1, [.slice p3 l4 l5])] <|
     T.stores a21 [.slice p12 l13 l14, .slice p18 l19 l20, .slice none 0 0, .slice p22 l23 l24] <|
     T.loop [(false, [.int .i64])] [.int .i64 (0 : Int)] <| fun (n25 : Int) =>
     T.loads (a1.add 2) [.slice 38] <| fun (p26 : Option Addr) (l27 : Nat) (l28 : Nat) =>
     cond (decide (n25 < (l27 : Int)))
      (T.loads (a21.add 2) [.slice 38] <| fun (p29 : Option Addr) (l30 : Nat) (l31 : Nat) =>
      T.loads (a1.add 2) [.slice 38] <| fun (p32 : Option Addr) (l33 : Nat) (l34 : Nat) =>
      T.need (((0 : Int) ≤ n25) ∧ (n25 < (l33 : Int))) <|
      T.osome p32 <| fun (a35 : Addr) =>
      T.loads (a35.add ((Int.toNat n25) * 3)) [.string] <| fun (s36 : ByteArray) =>
      T.loads (a1.add 2) [.slice 38] <| fun (p37 : Option Addr) (l38 : Nat) (l39 : Nat) =>
      T.need (((0 : Int) ≤ n25) ∧ (n25 < (l38 : Int))) <|
      T.osome p37 <| fun (a40 : Addr) =>
      T.loads ((a40.add ((Int.toNat n25) * 3)).add 1) [.slice 40, .int .u32] <| fun (p41 : Option Addr) (l42 : Nat) (l43 : Nat) (n44 : Int) =>
      T.call Try.prog 32 [.agg #[.slice p41 l42 l43, .int .u32 n44]] false [(true, [.slice 40, .int .u32])] <| fun (p45 : Option Addr) (l46 : Nat) (l47 : Nat) (n48 : Int) =>
      T.stable [((a1.add 2), [.slice p37 l38 l39]), ((a35.add ((Int.toNat n25) * 3)), [.string s36]), ((a1.add 2), [.slice p32 l33 l34]), ((a21.add 2), [.slice p29 l30 l31])] <|
      T.sem Try.prog (Instr.buildSlice 22 1 #[(0, .agg #[.string s36, .slice p45 l46 l47, .int .u32 n48])]) false [(false, [.slice 0])] <| fun (p49 : Option Addr) (l50 : Nat) (l51 : Nat) =>
      T.stable [(((a40.add ((Int.toNat n25) * 3)).add 1), [.slice p41 l42 l43, .int .u32 n44]), ((a1.add 2), [.slice p37 l38 l39]), ((a35.add ((Int.toNat n25) * 3)), [.string s36]), ((a1.add 2), [.slice p32 l33 l34]), ((a21.add 2), [.slice p29 l30 l31])] <|
      T.sem Try.prog (Builtin.append_ #[22, 22] 22 #[.slice p29 l30 l31, .slice p49 l50 l51]) false [(false, [.slice 0])] <| fun (p52 : Option Addr) (l53 : Nat) (l54 : Nat) =>
      T.stable [(((a40.add ((Int.toNat n25) * 3)).add 1), [.slice p41 l42 l43, .int .u32 n44]), ((a1.add 2), [.slice p37 l38 l39]), ((a35.add ((Int.toNat n25) * 3)), [.string s36]), ((a1.add 2), [.slice p32 l33 l34])] <|
      T.stores (a21.add 2) [.slice p52 l53 l54] <|
      T.again 0 [.int .i64 (IntKind.wrap .i64 (n25 + (1 : Int)))])
      (T.loads a21 [.slice 94, .slice 94, .slice 38, .slice 9] <| fun (p29 : Option Addr) (l30 : Nat) (l31 : Nat) (p32 : Option Addr) (l33 : Nat) (l34 : Nat) (p35 : Option Addr) (l36 : Nat) (l37 : Nat) (p38 : Option Addr) (l39 : Nat) (l40 : Nat) =>
      T.stores a2 [.slice p29 l30 l31, .slice p32 l33 l34, .slice p35 l36 l37, .slice p38 l39 l40] <|
      T.loads a2 [.slice 94, .slice 94, .slice 38, .slice 9] <| fun (p41 : Option Addr) (l42 : Nat) (l43 : Nat) (p44 : Option Addr) (l45 : Nat) (l46 : Nat) (p47 : Option Addr) (l48 : Nat) (l49 : Nat) (p50 : Option Addr) (l51 : Nat) (l52 : Nat) =>
      T.ret (.agg #[.slice p41 l42 l43, .slice p44 l45 l46, .slice p47 l48 l49, .slice p50 l51 l52])))]),
    (T.new [.slice none 0 0, .slice none 0 0, .slice none 0 0, .slice none 0 0] 47 <| fun (a18 : Addr) =>
    T.stable [((a1.add 3), [.slice p9 l10 l11]), ((a1.add 1), [.slice p6 l7 l8]), (a1, [.slice p3 l4 l5])] <|
    T.call Try.prog 31 [.slice p6 l7 l8] false [(false, [.slice 94])] <| fun (p19 : Option Addr) (l20 : Nat) (l21 : Nat) =>
    T.stable [((a1.add 3), [.slice p9 l10 l11]), (a1, [.slice p3 l4 l5])] <|
    T.sem Try.prog (Builtin.append_ #[29, 29] 29 #[.slice p15 l16 l17, .slice p9 l10 l11]) false [(false, [.slice 0])] <| fun (p22 : Option Addr) (l23 : Nat) (l24 : Nat) =>
    T.stable [((a1.add 1), [.slice p6 l7 l8]), (a1, [.slice p3 l4 l5])] <|
    T.stores a18 [.slice p12 l13 l14, .slice p19 l20 l21, .slice none 0 0, .slice p22 l23 l24] <|
    T.loop [(false, [.int .i64])] [.int .i64 (0 : Int)] <| fun (n25 : Int) =>
    T.loads (a1.add 2) [.slice 38] <| fun (p26 : Option Addr) (l27 : Nat) (l28 : Nat) =>
    cond (decide (n25 < (l27 : Int)))
     (T.loads (a18.add 2) [.slice 38] <| fun (p29 : Option Addr) (l30 : Nat) (l31 : Nat) =>
     T.loads (a1.add 2) [.slice 38] <| fun (p32 : Option Addr) (l33 : Nat) (l34 : Nat) =>
     T.need (((0 : Int) ≤ n25) ∧ (n25 < (l33 : Int))) <|
     T.osome p32 <| fun (a35 : Addr) =>
     T.loads (a35.add ((Int.toNat n25) * 3)) [.string] <| fun (s36 : ByteArray) =>
     T.loads (a1.add 2) [.slice 38] <| fun (p37 : Option Addr) (l38 : Nat) (l39 : Nat) =>
     T.need (((0 : Int) ≤ n25) ∧ (n25 < (l38 : Int))) <|
     T.osome p37 <| fun (a40 : Addr) =>
     T.loads ((a40.add ((Int.toNat n25) * 3)).add 1) [.slice 40, .int .u32] <| fun (p41 : Option Addr) (l42 : Nat) (l43 : Nat) (n44 : Int) =>
     T.call Try.prog 32 [.agg #[.slice p41 l42 l43, .int .u32 n44]] false [(true, [.slice 40, .int .u32])] <| fun (p45 : Option Addr) (l46 : Nat) (l47 : Nat) (n48 : Int) =>
     T.stable [((a1.add 2), [.slice p37 l38 l39]), ((a35.add ((Int.toNat n25) * 3)), [.string s36]), ((a1.add 2), [.slice p32 l33 l34]), ((a18.add 2), [.slice p29 l30 l31])] <|
     T.sem Try.prog (Instr.buildSlice 22 1 #[(0, .agg #[.string s36, .slice p45 l46 l47, .int .u32 n48])]) false [(false, [.slice 0])] <| fun (p49 : Option Addr) (l50 : Nat) (l51 : Nat) =>
     T.stable [(((a40.add ((Int.toNat n25) * 3)).add 1), [.slice p41 l42 l43, .int .u32 n44]), ((a1.add 2), [.slice p37 l38 l39]), ((a35.add ((Int.toNat n25) * 3)), [.string s36]), ((a1.add 2), [.slice p32 l33 l34]), ((a18.add 2), [.slice p29 l30 l31])] <|
     T.sem Try.prog (Builtin.append_ #[22, 22] 22 #[.slice p29 l30 l31, .slice p49 l50 l51]) false [(false, [.slice 0])] <| fun (p52 : Option Addr) (l53 : Nat) (l54 : Nat) =>
     T.stable [(((a40.add ((Int.toNat n25) * 3)).add 1), [.slice p41 l42 l43, .int .u32 n44]), ((a1.add 2), [.slice p37 l38 l39]), ((a35.add ((Int.toNat n25) * 3)), [.string s36]), ((a1.add 2), [.slice p32 l33 l34])] <|
     T.stores (a18.add 2) [.slice p52 l53 l54] <|
     T.again 0 [.int .i64 (IntKind.wrap .i64 (n25 + (1 : Int)))])
     (T.loads a18 [.slice 94, .slice 94, .slice 38, .slice 9] <| fun (p29 : Option Addr) (l30 : Nat) (l31 : Nat) (p32 : Option Addr) (l33 : Nat) (l34 : Nat) (p35 : Option Addr) (l36 : Nat) (l37 : Nat) (p38 : Option Addr) (l39 : Nat) (l40 : Nat) =>
     T.stores a2 [.slice p29 l30 l31, .slice p32 l33 l34, .slice p35 l36 l37, .slice p38 l39 l40] <|
     T.loads a2 [.slice 94, .slice 94, .slice 38, .slice 9] <| fun (p41 : Option Addr) (l42 : Nat) (l43 : Nat) (p44 : Option Addr) (l45 : Nat) (l46 : Nat) (p47 : Option Addr) (l48 : Nat) (l49 : Nat) (p50 : Option Addr) (l51 : Nat) (l52 : Nat) =>
     T.ret (.agg #[.slice p41 l42 l43, .slice p44 l45 l46, .slice p47 l48 l49, .slice p50 l51 l52])))]),
   (T.new [.slice none 0 0, .slice none 0 0, .slice none 0 0, .slice none 0 0] 47 <| fun (a15 : Addr) =>
   T.stable [((a1.add 3), [.slice p9 l10 l11]), ((a1.add 1), [.slice p6 l7 l8]), (a1, [.slice p3 l4 l5])] <|
   T.all [ (T.call Try.prog 31 [.slice p6 l7 l8] false [(false, [.slice 94])] <| fun (p16 : Option Addr) (l17 : Nat) (l18 : Nat) =>
    T.stable [((a1.add 3), [.slice p9 l10 l11]), (a1, [.slice p3 l4 l5])] <|
    T.sem Try.prog (Instr.buildSlice 29 0 #[]) false [(false, [.slice 0])] <| fun (p19 : Option Addr) (l20 : Nat) (l21 : Nat) =>
    T.stable [((a1.add 3), [.slice p9 l10 l11]), ((a1.add 1), [.slice p6 l7 l8]), (a1, [.slice p3 l4 l5])] <|
    T.sem Try.prog (Builtin.append_ #[29, 29] 29 #[.slice p19 l20 l21, .slice p9 l10 l11]) false [(false, [.slice 0])] <| fun (p22 : Option Addr) (l23 : Nat) (l24 : Nat) =>
    T.stable [((a1.add 1), [.slice p6 l7 l8]), (a1, [.slice p3 l4 l5])] <|
    T.stores a15 [.slice p12 l13 l14, .slice p16 l17 l18, .slice none 0 0, .slice p22 l23 l24] <|
    T.loop [(false, [.int .i64])] [.int .i64 (0 : Int)] <| fun (n25 : Int) =>
    T.loads (a1.add 2) [.slice 38] <| fun (p26 : Option Addr) (l27 : Nat) (l28 : Nat) =>
    cond (decide (n25 < (l27 : Int)))
     (T.loads (a15.add 2) [.slice 38] <| fun (p29 : Option Addr) (l30 : Nat) (l31 : Nat) =>
     T.loads (a1.add 2) [.slice 38] <| fun (p32 : Option Addr) (l33 : Nat) (l34 : Nat) =>
     T.need (((0 : Int) ≤ n25) ∧ (n25 < (l33 : Int))) <|
     T.osome p32 <| fun (a35 : Addr) =>
     T.loads (a35.add ((Int.toNat n25) * 3)) [.string] <| fun (s36 : ByteArray) =>
     T.loads (a1.add 2) [.slice 38] <| fun (p37 : Option Addr) (l38 : Nat) (l39 : Nat) =>
     T.need (((0 : Int) ≤ n25) ∧ (n25 < (l38 : Int))) <|
     T.osome p37 <| fun (a40 : Addr) =>
     T.loads ((a40.add ((Int.toNat n25) * 3)).add 1) [.slice 40, .int .u32] <| fun (p41 : Option Addr) (l42 : Nat) (l43 : Nat) (n44 : Int) =>
     T.call Try.prog 32 [.agg #[.slice p41 l42 l43, .int .u32 n44]] false [(true, [.slice 40, .int .u32])] <| fun (p45 : Option Addr) (l46 : Nat) (l47 : Nat) (n48 : Int) =>
     T.stable [((a1.add 2), [.slice p37 l38 l39]), ((a35.add ((Int.toNat n25) * 3)), [.string s36]), ((a1.add 2), [.slice p32 l33 l34]), ((a15.add 2), [.slice p29 l30 l31])] <|
     T.sem Try.prog (Instr.buildSlice 22 1 #[(0, .agg #[.string s36, .slice p45 l46 l47, .int .u32 n48])]) false [(false, [.slice 0])] <| fun (p49 : Option Addr) (l50 : Nat) (l51 : Nat) =>
     T.stable [(((a40.add ((Int.toNat n25) * 3)).add 1), [.slice p41 l42 l43, .int .u32 n44]), ((a1.add 2), [.slice p37 l38 l39]), ((a35.add ((Int.toNat n25) * 3)), [.string s36]), ((a1.add 2), [.slice p32 l33 l34]), ((a15.add 2), [.slice p29 l30 l31])] <|
     T.sem Try.prog (Builtin.append_ #[22, 22] 22 #[.slice p29 l30 l31, .slice p49 l50 l51]) false [(false, [.slice 0])] <| fun (p52 : Option Addr) (l53 : Nat) (l54 : Nat) =>
     T.stable [(((a40.add ((Int.toNat n25) * 3)).add 1), [.slice p41 l42 l43, .int .u32 n44]), ((a1.add 2), [.slice p37 l38 l39]), ((a35.add ((Int.toNat n25) * 3)), [.string s36]), ((a1.add 2), [.slice p32 l33 l34])] <|
     T.stores (a15.add 2) [.slice p52 l53 l54] <|
     T.again 0 [.int .i64 (IntKind.wrap .i64 (n25 + (1 : Int)))])
     (T.loads a15 [.slice 94, .slice 94, .slice 38, .slice 9] <| fun (p29 : Option Addr) (l30 : Nat) (l31 : Nat) (p32 : Option Addr) (l33 : Nat) (l34 : Nat) (p35 : Option Addr) (l36 : Nat) (l37 : Nat) (p38 : Option Addr) (l39 : Nat) (l40 : Nat) =>
     T.stores a2 [.slice p29 l30 l31, .slice p32 l33 l34, .slice p35 l36 l37, .slice p38 l39 l40] <|
     T.loads a2 [.slice 94, .slice 94, .slice 38, .slice 9] <| fun (p41 : Option Addr) (l42 : Nat) (l43 : Nat) (p44 : Option Addr) (l45 : Nat) (l46 : Nat) (p47 : Option Addr) (l48 : Nat) (l49 : Nat) (p50 : Option Addr) (l51 : Nat) (l52 : Nat) =>
     T.ret (.agg #[.slice p41 l42 l43, .slice p44 l45 l46, .slice p47 l48 l49, .slice p50 l51 l52]))),
    (T.sem Try.prog (Instr.buildSlice 29 0 #[]) false [(false, [.slice 0])] <| fun (p16 : Option Addr) (l17 : Nat) (l18 : Nat) =>
    T.stable [((a1.add 3), [.slice p9 l10 l11]), ((a1.add 1), [.slice p6 l7 l8]), (a1, [.slice p3 l4 l5])] <|
    T.call Try.prog 31 [.slice p6 l7 l8] false [(false, [.slice 94])] <| fun (p19 : Option Addr) (l20 : Nat) (l21 : Nat) =>
    T.stable [((a1.add 3), [.slice p9 l10 l11]), (a1, [.slice p3 l4 l5])] <|
    T.sem Try.prog (Builtin.append_ #[29, 29] 29 #[.slice p16 l17 l18, .slice p9 l10 l11]) false [(false, [.slice 0])] <| fun (p22 : Option Addr) (l23 : Nat) (l24 : Nat) =>
    T.stable [((a1.add 1), [.slice p6 l7 l8]), (a1, [.slice p3 l4 l5])] <|
    T.stores a15 [.slice p12 l13 l14, .slice p19 l20 l21, .slice none 0 0, .slice p22 l23 l24] <|
    T.loop [(false, [.int .i64])] [.int .i64 (0 : Int)] <| fun (n25 : Int) =>
    T.loads (a1.add 2) [.slice 38] <| fun (p26 : Option Addr) (l27 : Nat) (l28 : Nat) =>
    cond (decide (n25 < (l27 : Int)))
     (T.loads (a15.add 2) [.slice 38] <| fun (p29 : Option Addr) (l30 : Nat) (l31 : Nat) =>
     T.loads (a1.add 2) [.slice 38] <| fun (p32 : Option Addr) (l33 : Nat) (l34 : Nat) =>
     T.need (((0 : Int) ≤ n25) ∧ (n25 < (l33 : Int))) <|
     T.osome p32 <| fun (a35 : Addr) =>
     T.loads (a35.add ((Int.toNat n25) * 3)) [.string] <| fun (s36 : ByteArray) =>
     T.loads (a1.add 2) [.slice 38] <| fun (p37 : Option Addr) (l38 : Nat) (l39 : Nat) =>
     T.need (((0 : Int) ≤ n25) ∧ (n25 < (l38 : Int))) <|
     T.osome p37 <| fun (a40 : Addr) =>
     T.loads ((a40.add ((Int.toNat n25) * 3)).add 1) [.slice 40, .int .u32] <| fun (p41 : Option Addr) (l42 : Nat) (l43 : Nat) (n44 : Int) =>
     T.call Try.prog 32 [.agg #[.slice p41 l42 l43, .int .u32 n44]] false [(true, [.slice 40, .int .u32])] <| fun (p45 : Option Addr) (l46 : Nat) (l47 : Nat) (n48 : Int) =>
     T.stable [((a1.add 2), [.slice p37 l38 l39]), ((a35.add ((Int.toNat n25) * 3)), [.string s36]), ((a1.add 2), [.slice p32 l33 l34]), ((a15.add 2), [.slice p29 l30 l31])] <|
     T.sem Try.prog (Instr.buildSlice 22 1 #[(0, .agg #[.string s36, .slice p45 l46 l47, .int .u32 n48])]) false [(false, [.slice 0])] <| fun (p49 : Option Addr) (l50 : Nat) (l51 : Nat) =>
     T.stable [(((a40.add ((Int.toNat n25) * 3)).add 1), [.slice p41 l42 l43, .int .u32 n44]), ((a1.add 2), [.slice p37 l38 l39]), ((a35.add ((Int.toNat n25) * 3)), [.string s36]), ((a1.add 2), [.slice p32 l33 l34]), ((a15.add 2), [.slice p29 l30 l31])] <|
     T.sem Try.prog (Builtin.append_ #[22, 22] 22 #[.slice p29 l30 l31, .slice p49 l50 l51]) false [(false, [.slice 0])] <| fun (p52 : Option Addr) (l53 : Nat) (l54 : Nat) =>
     T.stable [(((a40.add ((Int.toNat n25) * 3)).add 1), [.slice p41 l42 l43, .int .u32 n44]), ((a1.add 2), [.slice p37 l38 l39]), ((a35.add ((Int.toNat n25) * 3)), [.string s36]), ((a1.add 2), [.slice p32 l33 l34])] <|
     T.stores (a15.add 2) [.slice p52 l53 l54] <|
     T.again 0 [.int .i64 (IntKind.wrap .i64 (n25 + (1 : Int)))])
     (T.loads a15 [.slice 94, .slice 94, .slice 38, .slice 9] <| fun (p29 : Option Addr) (l30 : Nat) (l31 : Nat) (p32 : Option Addr) (l33 : Nat) (l34 : Nat) (p35 : Option Addr) (l36 : Nat) (l37 : Nat) (p38 : Option Addr) (l39 : Nat) (l40 : Nat) =>
     T.stores a2 [.slice p29 l30 l31, .slice p32 l33 l34, .slice p35 l36 l37, .slice p38 l39 l40] <|
     T.loads a2 [.slice 94, .slice 94, .slice 38, .slice 9] <| fun (p41 : Option Addr) (l42 : Nat) (l43 : Nat) (p44 : Option Addr) (l45 : Nat) (l46 : Nat) (p47 : Option Addr) (l48 : Nat) (l49 : Nat) (p50 : Option Addr) (l51 : Nat) (l52 : Nat) =>
     T.ret (.agg #[.slice p41 l42 l43, .slice p44 l45 l46, .slice p47 l48 l49, .slice p50 l51 l52])))])]),
  (T.sem Try.prog (Instr.buildSlice 29 0 #[]) false [(false, [.slice 0])] <| fun (p12 : Option Addr) (l13 : Nat) (l14 : Nat) =>
  T.stable [((a1.add 3), [.slice p9 l10 l11]), ((a1.add 1), [.slice p6 l7 l8]), (a1, [.slice p3 l4 l5])] <|
  T.all [ (T.call Try.prog 31 [.slice p3 l4 l5] false [(false, [.slice 94])] <| fun (p15 : Option Addr) (l16 : Nat) (l17 : Nat) =>
   T.stable [((a1.add 3), [.slice p9 l10 l11]), ((a1.add 1), [.slice p6 l7 l8])] <|
   T.all [ (T.call Try.prog 31 [.slice p6 l7 l8] false [(false, [.slice 94])] <| fun (p18 : Option Addr) (l19 : Nat) (l20 : Nat) =>
    T.stable [((a1.add 3), [.slice p9 l10 l11]), (a1, [.slice p3 l4 l5])] <|
    T.all [ (T.sem Try.prog (Builtin.append_ #[29, 29] 29 #[.slice p12 l13 l14, .slice p9 l10 l11]) false [(false, [.slice 0])] <| fun (p21 : Option Addr) (l22 : Nat) (l23 : Nat) =>
     T.stable [((a1.add 1), [.slice p6 l7 l8]), (a1, [.slice p3 l4 l5])] <|
     T.new [.slice none 0 0, .slice none 0 0, .slice none 0 0, .slice none 0 0] 47 <| fun (a24 : Addr) =>
     T.stable [((a1.add 3), [.slice p9 l10 l11]), ((a1.add 1), [.slice p6 l7 l8]), (a1, [.slice p3 l4 l5])] <|
     T.stores a24 [.slice p15 l16 l17, .slice p18 l19 l20, .slice none 0 0, .slice p21 l22 l23] <|
     T.loop [(false, [.int .i64])] [.int .i64 (0 : Int)] <| fun (n25 : Int) =>
     T.loads (a1.add 2) [.slice 38] <| fun (p26 : Option Addr) (l27 : Nat) (l28 : Nat) =>
     cond (decide (n25 < (l27 : Int)))
      (T.loads (a24.add 2) [.slice 38] <| fun (p29 : Option Addr) (l30 : Nat) (l31 : Nat) =>
      T.loads (a1.add 2) [.slice 38] <| fun (p32 : Option Addr) (l33 : Nat) (l34 : Nat) =>
      T.need (((0 : Int) ≤ n25) ∧ (n25 < (l33 : Int))) <|
      T.osome p32 <| fun (a35 : Addr) =>
      T.loads (a35.add ((Int.toNat n25) * 3)) [.string] <| fun (s36 : ByteArray) =>
      T.loads (a1.add 2) [.slice 38] <| fun (p37 : Option Addr) (l38 : Nat) (l39 : Nat) =>
      T.need (((0 : Int) ≤ n25) ∧ (n25 < (l38 : Int))) <|
      T.osome p37 <| fun (a40 : Addr) =>
      T.loads ((a40.add ((Int.toNat n25) * 3)).add 1) [.slice 40, .int .u32] <| fun (p41 : Option Addr) (l42 : Nat) (l43 : Nat) (n44 : Int) =>
      T.call Try.prog 32 [.agg #[.slice p41 l42 l43, .int .u32 n44]] false [(true, [.slice 40, .int .u32])] <| fun (p45 : Option Addr) (l46 : Nat) (l47 : Nat) (n48 : Int) =>
      T.stable [((a1.add 2), [.slice p37 l38 l39]), ((a35.add ((Int.toNat n25) * 3)), [.string s36]), ((a1.add 2), [.slice p32 l33 l34]), ((a24.add 2), [.slice p29 l30 l31])] <|
      T.sem Try.prog (Instr.buildSlice 22 1 #[(0, .agg #[.string s36, .slice p45 l46 l47, .int .u32 n48])]) false [(false, [.slice 0])] <| fun (p49 : Option Addr) (l50 : Nat) (l51 : Nat) =>
      T.stable [(((a40.add ((Int.toNat n25) * 3)).add 1), [.slice p41 l42 l43, .int .u32 n44]), ((a1.add 2), [.slice p37 l38 l39]), ((a35.add ((Int.toNat n25) * 3)), [.string s36]), ((a1.add 2), [.slice p32 l33 l34]), ((a24.add 2), [.slice p29 l30 l31])] <|
      T.sem Try.prog (Builtin.append_ #[22, 22] 22 #[.slice p29 l30 l31, .slice p49 l50 l51]) false [(false, [.slice 0])] <| fun (p52 : Option Addr) (l53 : Nat) (l54 : Nat) =>
      T.stable [(((a40.add ((Int.toNat n25) * 3)).add 1), [.slice p41 l42 l43, .int .u32 n44]), ((a1.add 2), [.slice p37 l38 l39]), ((a35.add ((Int.toNat n25) * 3)), [.string s36]), ((a1.add 2), [.slice p32 l33 l34])] <|
      T.stores (a24.add 2) [.slice p52 l53 l54] <|
      T.again 0 [.int .i64 (IntKind.wrap .i64 (n25 + (1 : Int)))])
      (T.loads a24 [.slice 94, .slice 94, .slice 38, .slice 9] <| fun (p29 : Option Addr) (l30 : Nat) (l31 : Nat) (p32 : Option Addr) (l33 : Nat) (l34 : Nat) (p35 : Option Addr) (l36 : Nat) (l37 : Nat) (p38 : Option Addr) (l39 : Nat) (l40 : Nat) =>
      T.stores a2 [.slice p29 l30 l31, .slice p32 l33 l34, .slice p35 l36 l37, .slice p38 l39 l40] <|
      T.loads a2 [.slice 94, .slice 94, .slice 38, .slice 9] <| fun (p41 : Option Addr) (l42 : Nat) (l43 : Nat) (p44 : Option Addr) (l45 : Nat) (l46 : Nat) (p47 : Option Addr) (l48 : Nat) (l49 : Nat) (p50 : Option Addr) (l51 : Nat) (l52 : Nat) =>
      T.ret (.agg #[.slice p41 l42 l43, .slice p44 l45 l46, .slice p47 l48 l49, .slice p50 l51 l52]))),
     (T.new [.slice none 0 0, .slice none 0 0, .slice none 0 0, .slice none 0 0] 47 <| fun (a21 : Addr) =>
     T.stable [((a1.add 3), [.slice p9 l10 l11]), ((a1.add 1), [.slice p6 l7 l8]), (a1, [.slice p3 l4 l5])] <|
     T.sem Try.prog (Builtin.append_ #[29, 29] 29 #[.slice p12 l13 l14, .slice p9 l10 l11]) false [(false, [.slice 0])] <| fun (p22 : Option Addr) (l23 : Nat) (l24 : Nat) =>
     T.stable [((a1.add 1), [.slice p6 l7 l8]), (a1, [.slice p3 l4 l5])] <|
     T.stores a21 [.slice p15 l16 l17, .slice p18 l19 l20, .slice none 0 0, .slice p22 l23 l24] <|
     T.loop [(false, [.int .i64])] [.int .i64 (0 : Int)] <| fun (n25 : Int) =>
     T.loads (a1.add 2) [.slice 38] <| fun (p26 : Option Addr) (l27 : Nat) (l28 : Nat) =>
     cond (decide (n25 < (l27 : Int)))
      (T.loads (a21.add 2) [.slice 38] <| fun (p29 : Option Addr) (l30 : Nat) (l31 : Nat) =>
      T.loads (a1.add 2) [.slice 38] <| fun (p32 : Option Addr) (l33 : Nat) (l34 : Nat) =>
      T.need (((0 : Int) ≤ n25) ∧ (n25 < (l33 : Int))) <|
      T.osome p32 <| fun (a35 : Addr) =>
      T.loads (a35.add ((Int.toNat n25) * 3)) [.string] <| fun (s36 : ByteArray) =>
      T.loads (a1.add 2) [.slice 38] <| fun (p37 : Option Addr) (l38 : Nat) (l39 : Nat) =>
      T.need (((0 : Int) ≤ n25) ∧ (n25 < (l38 : Int))) <|
      T.osome p37 <| fun (a40 : Addr) =>
      T.loads ((a40.add ((Int.toNat n25) * 3)).add 1) [.slice 40, .int .u32] <| fun (p41 : Option Addr) (l42 : Nat) (l43 : Nat) (n44 : Int) =>
      T.call Try.prog 32 [.agg #[.slice p41 l42 l43, .int .u32 n44]] false [(true, [.slice 40, .int .u32])] <| fun (p45 : Option Addr) (l46 : Nat) (l47 : Nat) (n48 : Int) =>
      T.stable [((a1.add 2), [.slice p37 l38 l39]), ((a35.add ((Int.toNat n25) * 3)), [.string s36]), ((a1.add 2), [.slice p32 l33 l34]), ((a21.add 2), [.slice p29 l30 l31])] <|
      T.sem Try.prog (Instr.buildSlice 22 1 #[(0, .agg #[.string s36, .slice p45 l46 l47, .int .u32 n48])]) false [(false, [.slice 0])] <| fun (p49 : Option Addr) (l50 : Nat) (l51 : Nat) =>
      T.stable [(((a40.add ((Int.toNat n25) * 3)).add 1), [.slice p41 l42 l43, .int .u32 n44]), ((a1.add 2), [.slice p37 l38 l39]), ((a35.add ((Int.toNat n25) * 3)), [.string s36]), ((a1.add 2), [.slice p32 l33 l34]), ((a21.add 2), [.slice p29 l30 l31])] <|
      T.sem Try.prog (Builtin.append_ #[22, 22] 22 #[.slice p29 l30 l31, .slice p49 l50 l51]) false [(false, [.slice 0])] <| fun (p52 : Option Addr) (l53 : Nat) (l54 : Nat) =>
      T.stable [(((a40.add ((Int.toNat n25) * 3)).add 1), [.slice p41 l42 l43, .int .u32 n44]), ((a1.add 2), [.slice p37 l38 l39]), ((a35.add ((Int.toNat n25) * 3)), [.string s36]), ((a1.add 2), [.slice p32 l33 l34])] <|
      T.stores (a21.add 2) [.slice p52 l53 l54] <|
      T.again 0 [.int .i64 (IntKind.wrap .i64 (n25 + (1 : Int)))])
      (T.loads a21 [.slice 94, .slice 94, .slice 38, .slice 9] <| fun (p29 : Option Addr) (l30 : Nat) (l31 : Nat) (p32 : Option Addr) (l33 : Nat) (l34 : Nat) (p35 : Option Addr) (l36 : Nat) (l37 : Nat) (p38 : Option Addr) (l39 : Nat) (l40 : Nat) =>
      T.stores a2 [.slice p29 l30 l31, .slice p32 l33 l34, .slice p35 l36 l37, .slice p38 l39 l40] <|
      T.loads a2 [.slice 94, .slice 94, .slice 38, .slice 9] <| fun (p41 : Option Addr) (l42 : Nat) (l43 : Nat) (p44 : Option Addr) (l45 : Nat) (l46 : Nat) (p47 : Option Addr) (l48 : Nat) (l49 : Nat) (p50 : Option Addr) (l51 : Nat) (l52 : Nat) =>
      T.ret (.agg #[.slice p41 l42 l43, .slice p44 l45 l46, .slice p47 l48 l49, .slice p50 l51 l52])))]),
    (T.new [.slice none 0 0, .slice none 0 0, .slice none 0 0, .slice none 0 0] 47 <| fun (a18 : Addr) =>
    T.stable [((a1.add 3), [.slice p9 l10 l11]), ((a1.add 1), [.slice p6 l7 l8]), (a1, [.slice p3 l4 l5])] <|
    T.call Try.prog 31 [.slice p6 l7 l8] false [(false, [.slice 94])] <| fun (p19 : Option Addr) (l20 : Nat) (l21 : Nat) =>
    T.stable [((a1.add 3), [.slice p9 l10 l11]), (a1, [.slice p3 l4 l5])] <|
    T.sem Try.prog (Builtin.append_ #[29, 29] 29 #[.slice p12 l13 l14, .slice p9 l10 l11]) false [(false, [.slice 0])] <| fun (p22 : Option Addr) (l23 : Nat) (l24 : Nat) =>
    T.stable [((a1.add 1), [.slice p6 l7 l8]), (a1, [.slice p3 l4 l5])] <|
    T.stores a18 [.slice p15 l16 l17, .slice p19 l20 l21, .slice none 0 0, .slice p22 l23 l24] <|
    T.loop [(false, [.int .i64])] [.int .i64 (0 : Int)] <| fun (n25 : Int) =>
    T.loads (a1.add 2) [.slice 38] <| fun (p26 : Option Addr) (l27 : Nat) (l28 : Nat) =>
    cond (decide (n25 < (l27 : Int)))
     (T.loads (a18.add 2) [.slice 38] <| fun (p29 : Option Addr) (l30 : Nat) (l31 : Nat) =>
     T.loads (a1.add 2) [.slice 38] <| fun (p32 : Option Addr) (l33 : Nat) (l34 : Nat) =>
     T.need (((0 : Int) ≤ n25) ∧ (n25 < (l33 : Int))) <|
     T.osome p32 <| fun (a35 : Addr) =>
     T.loads (a35.add ((Int.toNat n25) * 3)) [.string] <| fun (s36 : ByteArray) =>
     T.loads (a1.add 2) [.slice 38] <| fun (p37 : Option Addr) (l38 : Nat) (l39 : Nat) =>
     T.need (((0 : Int) ≤ n25) ∧ (n25 < (l38 : Int))) <|
     T.osome p37 <| fun (a40 : Addr) =>
     T.loads ((a40.add ((Int.toNat n25) * 3)).add 1) [.slice 40, .int .u32] <| fun (p41 : Option Addr) (l42 : Nat) (l43 : Nat) (n44 : Int) =>
     T.call Try.prog 32 [.agg #[.slice p41 l42 l43, .int .u32 n44]] false [(true, [.slice 40, .int .u32])] <| fun (p45 : Option Addr) (l46 : Nat) (l47 : Nat) (n48 : Int) =>
     T.stable [((a1.add 2), [.slice p37 l38 l39]), ((a35.add ((Int.toNat n25) * 3)), [.string s36]), ((a1.add 2), [.slice p32 l33 l34]), ((a18.add 2), [.slice p29 l30 l31])] <|
     T.sem Try.prog (Instr.buildSlice 22 1 #[(0, .agg #[.string s36, .slice p45 l46 l47, .int .u32 n48])]) false [(false, [.slice 0])] <| fun (p49 : Option Addr) (l50 : Nat) (l51 : Nat) =>
     T.stable [(((a40.add ((Int.toNat n25) * 3)).add 1), [.slice p41 l42 l43, .int .u32 n44]), ((a1.add 2), [.slice p37 l38 l39]), ((a35.add ((Int.toNat n25) * 3)), [.string s36]), ((a1.add 2), [.slice p32 l33 l34]), ((a18.add 2), [.slice p29 l30 l31])] <|
     T.sem Try.prog (Builtin.append_ #[22, 22] 22 #[.slice p29 l30 l31, .slice p49 l50 l51]) false [(false, [.slice 0])] <| fun (p52 : Option Addr) (l53 : Nat) (l54 : Nat) =>
     T.stable [(((a40.add ((Int.toNat n25) * 3)).add 1), [.slice p41 l42 l43, .int .u32 n44]), ((a1.add 2), [.slice p37 l38 l39]), ((a35.add ((Int.toNat n25) * 3)), [.string s36]), ((a1.add 2), [.slice p32 l33 l34])] <|
     T.stores (a18.add 2) [.slice p52 l53 l54] <|
     T.again 0 [.int .i64 (IntKind.wrap .i64 (n25 + (1 : Int)))])
     (T.loads a18 [.slice 94, .slice 94, .slice 38, .slice 9] <| fun (p29 : Option Addr) (l30 : Nat) (l31 : Nat) (p32 : Option Addr) (l33 : Nat) (l34 : Nat) (p35 : Option Addr) (l36 : Nat) (l37 : Nat) (p38 : Option Addr) (l39 : Nat) (l40 : Nat) =>
     T.stores a2 [.slice p29 l30 l31, .slice p32 l33 l34, .slice p35 l36 l37, .slice p38 l39 l40] <|
     T.loads a2 [.slice 94, .slice 94, .slice 38, .slice 9] <| fun (p41 : Option Addr) (l42 : Nat) (l43 : Nat) (p44 : Option Addr) (l45 : Nat) (l46 : Nat) (p47 : Option Addr) (l48 : Nat) (l49 : Nat) (p50 : Option Addr) (l51 : Nat) (l52 : Nat) =>
     T.ret (.agg #[.slice p41 l42 l43, .slice p44 l45 l46, .slice p47 l48 l49, .slice p50 l51 l52])))]),
   (T.new [.slice none 0 0, .slice none 0 0, .slice none 0 0, .slice none 0 0] 47 <| fun (a15 : Addr) =>
   T.stable [((a1.add 3), [.slice p9 l10 l11]), ((a1.add 1), [.slice p6 l7 l8]), (a1, [.slice p3 l4 l5])] <|
   T.call Try.prog 31 [.slice p3 l4 l5] false [(false, [.slice 94])] <| fun (p16 : Option Addr) (l17 : Nat) (l18 : Nat) =>
   T.stable [((a1.add 3), [.slice p9 l10 l11]), ((a1.add 1), [.slice p6 l7 l8])] <|
   T.call Try.prog 31 [.slice p6 l7 l8] false [(false, [.slice 94])] <| fun (p19 : Option Addr) (l20 : Nat) (l21 : Nat) =>
   T.stable [((a1.add 3), [.slice p9 l10 l11]), (a1, [.slice p3 l4 l5])] <|
   T.sem Try.prog (Builtin.append_ #[29, 29] 29 #[.slice p12 l13 l14, .slice p9 l10 l11]) false [(false, [.slice 0])] <| fun (p22 : Option Addr) (l23 : Nat) (l24 : Nat) =>
   T.stable [((a1.add 1), [.slice p6 l7 l8]), (a1, [.slice p3 l4 l5])] <|
   T.stores a15 [.slice p16 l17 l18, .slice p19 l20 l21, .slice none 0 0, .slice p22 l23 l24] <|
   T.loop [(false, [.int .i64])] [.int .i64 (0 : Int)] <| fun (n25 : Int) =>
   T.loads (a1.add 2) [.slice 38] <| fun (p26 : Option Addr) (l27 : Nat) (l28 : Nat) =>
   cond (decide (n25 < (l27 : Int)))
    (T.loads (a15.add 2) [.slice 38] <| fun (p29 : Option Addr) (l30 : Nat) (l31 : Nat) =>
    T.loads (a1.add 2) [.slice 38] <| fun (p32 : Option Addr) (l33 : Nat) (l34 : Nat) =>
    T.need (((0 : Int) ≤ n25) ∧ (n25 < (l33 : Int))) <|
    T.osome p32 <| fun (a35 : Addr) =>
    T.loads (a35.add ((Int.toNat n25) * 3)) [.string] <| fun (s36 : ByteArray) =>
    T.loads (a1.add 2) [.slice 38] <| fun (p37 : Option Addr) (l38 : Nat) (l39 : Nat) =>
    T.need (((0 : Int) ≤ n25) ∧ (n25 < (l38 : Int))) <|
    T.osome p37 <| fun (a40 : Addr) =>
    T.loads ((a40.add ((Int.toNat n25) * 3)).add 1) [.slice 40, .int .u32] <| fun (p41 : Option Addr) (l42 : Nat) (l43 : Nat) (n44 : Int) =>
    T.call Try.prog 32 [.agg #[.slice p41 l42 l43, .int .u32 n44]] false [(true, [.slice 40, .int .u32])] <| fun (p45 : Option Addr) (l46 : Nat) (l47 : Nat) (n48 : Int) =>
    T.stable [((a1.add 2), [.slice p37 l38 l39]), ((a35.add ((Int.toNat n25) * 3)), [.string s36]), ((a1.add 2), [.slice p32 l33 l34]), ((a15.add 2), [.slice p29 l30 l31])] <|
    T.sem Try.prog (Instr.buildSlice 22 1 #[(0, .agg #[.string s36, .slice p45 l46 l47, .int .u32 n48])]) false [(false, [.slice 0])] <| fun (p49 : Option Addr) (l50 : Nat) (l51 : Nat) =>
    T.stable [(((a40.add ((Int.toNat n25) * 3)).add 1), [.slice p41 l42 l43, .int .u32 n44]), ((a1.add 2), [.slice p37 l38 l39]), ((a35.add ((Int.toNat n25) * 3)), [.string s36]), ((a1.add 2), [.slice p32 l33 l34]), ((a15.add 2), [.slice p29 l30 l31])] <|
    T.sem Try.prog (Builtin.append_ #[22, 22] 22 #[.slice p29 l30 l31, .slice p49 l50 l51]) false [(false, [.slice 0])] <| fun (p52 : Option Addr) (l53 : Nat) (l54 : Nat) =>
    T.stable [(((a40.add ((Int.toNat n25) * 3)).add 1), [.slice p41 l42 l43, .int .u32 n44]), ((a1.add 2), [.slice p37 l38 l39]), ((a35.add ((Int.toNat n25) * 3)), [.string s36]), ((a1.add 2), [.slice p32 l33 l34])] <|
    T.stores (a15.add 2) [.slice p52 l53 l54] <|
    T.again 0 [.int .i64 (IntKind.wrap .i64 (n25 + (1 : Int)))])
    (T.loads a15 [.slice 94, .slice 94, .slice 38, .slice 9] <| fun (p29 : Option Addr) (l30 : Nat) (l31 : Nat) (p32 : Option Addr) (l33 : Nat) (l34 : Nat) (p35 : Option Addr) (l36 : Nat) (l37 : Nat) (p38 : Option Addr) (l39 : Nat) (l40 : Nat) =>
    T.stores a2 [.slice p29 l30 l31, .slice p32 l33 l34, .slice p35 l36 l37, .slice p38 l39 l40] <|
    T.loads a2 [.slice 94, .slice 94, .slice 38, .slice 9] <| fun (p41 : Option Addr) (l42 : Nat) (l43 : Nat) (p44 : Option Addr) (l45 : Nat) (l46 : Nat) (p47 : Option Addr) (l48 : Nat) (l49 : Nat) (p50 : Option Addr) (l51 : Nat) (l52 : Nat) =>
    T.ret (.agg #[.slice p41 l42 l43, .slice p44 l45 l46, .slice p47 l48 l49, .slice p50 l51 l52])))]),
  (T.new [.slice none 0 0, .slice none 0 0, .slice none 0 0, .slice none 0 0] 47 <| fun (a12 : Addr) =>
  T.stable [((a1.add 3), [.slice p9 l10 l11]), ((a1.add 1), [.slice p6 l7 l8]), (a1, [.slice p3 l4 l5])] <|
  T.all [ (T.call Try.prog 31 [.slice p3 l4 l5] false [(false, [.slice 94])] <| fun (p13 : Option Addr) (l14 : Nat) (l15 : Nat) =>
   T.stable [((a1.add 3), [.slice p9 l10 l11]), ((a1.add 1), [.slice p6 l7 l8])] <|
   T.all [ (T.call Try.prog 31 [.slice p6 l7 l8] false [(false, [.slice 94])] <| fun (p16 : Option Addr) (l17 : Nat) (l18 : Nat) =>
    T.stable [((a1.add 3), [.slice p9 l10 l11]), (a1, [.slice p3 l4 l5])] <|
    T.sem Try.prog (Instr.buildSlice 29 0 #[]) false [(false, [.slice 0])] <| fun (p19 : Option Addr) (l20 : Nat) (l21 : Nat) =>
    T.stable [((a1.add 3), [.slice p9 l10 l11]), ((a1.add 1), [.slice p6 l7 l8]), (a1, [.slice p3 l4 l5])] <|
    T.sem Try.prog (Builtin.append_ #[29, 29] 29 #[.slice p19 l20 l21, .slice p9 l10 l11]) false [(false, [.slice 0])] <| fun (p22 : Option Addr) (l23 : Nat) (l24 : Nat) =>
    T.stable [((a1.add 1), [.slice p6 l7 l8]), (a1, [.slice p3 l4 l5])] <|
    T.stores a12 [.slice p13 l14 l15, .slice p16 l17 l18, .slice none 0 0, .slice p22 l23 l24] <|
    T.loop [(false, [.int .i64])] [.int .i64 (0 : Int)] <| fun (n25 : Int) =>
    T.loads (a1.add 2) [.slice 38] <| fun (p26 : Option Addr) (l27 : Nat) (l28 : Nat) =>
    cond (decide (n25 < (l27 : Int)))
     (T.loads (a12.add 2) [.slice 38] <| fun (p29 : Option Addr) (l30 : Nat) (l31 : Nat) =>
     T.loads (a1.add 2) [.slice 38] <| fun (p32 : Option Addr) (l33 : Nat) (l34 : Nat) =>
     T.need (((0 : Int) ≤ n25) ∧ (n25 < (l33 : Int))) <|
     T.osome p32 <| fun (a35 : Addr) =>
     T.loads (a35.add ((Int.toNat n25) * 3)) [.string] <| fun (s36 : ByteArray) =>
     T.loads (a1.add 2) [.slice 38] <| fun (p37 : Option Addr) (l38 : Nat) (l39 : Nat) =>
     T.need (((0 : Int) ≤ n25) ∧ (n25 < (l38 : Int))) <|
     T.osome p37 <| fun (a40 : Addr) =>
     T.loads ((a40.add ((Int.toNat n25) * 3)).add 1) [.slice 40, .int .u32] <| fun (p41 : Option Addr) (l42 : Nat) (l43 : Nat) (n44 : Int) =>
     T.call Try.prog 32 [.agg #[.slice p41 l42 l43, .int .u32 n44]] false [(true, [.slice 40, .int .u32])] <| fun (p45 : Option Addr) (l46 : Nat) (l47 : Nat) (n48 : Int) =>
     T.stable [((a1.add 2), [.slice p37 l38 l39]), ((a35.add ((Int.toNat n25) * 3)), [.string s36]), ((a1.add 2), [.slice p32 l33 l34]), ((a12.add 2), [.slice p29 l30 l31])] <|
     T.sem Try.prog (Instr.buildSlice 22 1 #[(0, .agg #[.string s36, .slice p45 l46 l47, .int .u32 n48])]) false [(false, [.slice 0])] <| fun (p49 : Option Addr) (l50 : Nat) (l51 : Nat) =>
     T.stable [(((a40.add ((Int.toNat n25) * 3)).add 1), [.slice p41 l42 l43, .int .u32 n44]), ((a1.add 2), [.slice p37 l38 l39]), ((a35.add ((Int.toNat n25) * 3)), [.string s36]), ((a1.add 2), [.slice p32 l33 l34]), ((a12.add 2), [.slice p29 l30 l31])] <|
     T.sem Try.prog (Builtin.append_ #[22, 22] 22 #[.slice p29 l30 l31, .slice p49 l50 l51]) false [(false, [.slice 0])] <| fun (p52 : Option Addr) (l53 : Nat) (l54 : Nat) =>
     T.stable [(((a40.add ((Int.toNat n25) * 3)).add 1), [.slice p41 l42 l43, .int .u32 n44]), ((a1.add 2), [.slice p37 l38 l39]), ((a35.add ((Int.toNat n25) * 3)), [.string s36]), ((a1.add 2), [.slice p32 l33 l34])] <|
     T.stores (a12.add 2) [.slice p52 l53 l54] <|
     T.again 0 [.int .i64 (IntKind.wrap .i64 (n25 + (1 : Int)))])
     (T.loads a12 [.slice 94, .slice 94, .slice 38, .slice 9] <| fun (p29 : Option Addr) (l30 : Nat) (l31 : Nat) (p32 : Option Addr) (l33 : Nat) (l34 : Nat) (p35 : Option Addr) (l36 : Nat) (l37 : Nat) (p38 : Option Addr) (l39 : Nat) (l40 : Nat) =>
     T.stores a2 [.slice p29 l30 l31, .slice p32 l33 l34, .slice p35 l36 l37, .slice p38 l39 l40] <|
     T.loads a2 [.slice 94, .slice 94, .slice 38, .slice 9] <| fun (p41 : Option Addr) (l42 : Nat) (l43 : Nat) (p44 : Option Addr) (l45 : Nat) (l46 : Nat) (p47 : Option Addr) (l48 : Nat) (l49 : Nat) (p50 : Option Addr) (l51 : Nat) (l52 : Nat) =>
     T.ret (.agg #[.slice p41 l42 l43, .slice p44 l45 l46, .slice p47 l48 l49, .slice p50 l51 l52]))),
    (T.sem Try.prog (Instr.buildSlice 29 0 #[]) false [(false, [.slice 0])] <| fun (p16 : Option Addr) (l17 : Nat) (l18 : Nat) =>
    T.stable [((a1.add 3), [.slice p9 l10 l11]), ((a1.add 1), [.slice p6 l7 l8]), (a1, [.slice p3 l4 l5])] <|
    T.call Try.prog 31 [.slice p6 l7 l8] false [(false, [.slice 94])] <| fun (p19 : Option Addr) (l20 : Nat) (l21 : Nat) =>
    T.stable [((a1.add 3), [.slice p9 l10 l11]), (a1, [.slice p3 l4 l5])] <|
    T.sem Try.prog (Builtin.append_ #[29, 29] 29 #[.slice p16 l17 l18, .slice p9 l10 l11]) false [(false, [.slice 0])] <| fun (p22 : Option Addr) (l23 : Nat) (l24 : Nat) =>
    T.stable [((a1.add 1), [.slice p6 l7 l8]), (a1, [.slice p3 l4 l5])] <|
    T.stores a12 [.slice p13 l14 l15, .slice p19 l20 l21, .slice none 0 0, .slice p22 l23 l24] <|
    T.loop [(false, [.int .i64])] [.int .i64 (0 : Int)] <| fun (n25 : Int) =>
    T.loads (a1.add 2) [.slice 38] <| fun (p26 : Option Addr) (l27 : Nat) (l28 : Nat) =>
    cond (decide (n25 < (l27 : Int)))
     (T.loads (a12.add 2) [.slice 38] <| fun (p29 : Option Addr) (l30 : Nat) (l31 : Nat) =>
     T.loads (a1.add 2) [.slice 38] <| fun (p32 : Option Addr) (l33 : Nat) (l34 : Nat) =>
     T.need (((0 : Int) ≤ n25) ∧ (n25 < (l33 : Int))) <|
     T.osome p32 <| fun (a35 : Addr) =>
     T.loads (a35.add ((Int.toNat n25) * 3)) [.string] <| fun (s36 : ByteArray) =>
     T.loads (a1.add 2) [.slice 38] <| fun (p37 : Option Addr) (l38 : Nat) (l39 : Nat) =>
     T.need (((0 : Int) ≤ n25) ∧ (n25 < (l38 : Int))) <|
     T.osome p37 <| fun (a40 : Addr) =>
     T.loads ((a40.add ((Int.toNat n25) * 3)).add 1) [.slice 40, .int .u32] <| fun (p41 : Option Addr) (l42 : Nat) (l43 : Nat) (n44 : Int) =>
     T.call Try.prog 32 [.agg #[.slice p41 l42 l43, .int .u32 n44]] false [(true, [.slice 40, .int .u32])] <| fun (p45 : Option Addr) (l46 : Nat) (l47 : Nat) (n48 : Int) =>
     T.stable [((a1.add 2), [.slice p37 l38 l39]), ((a35.add ((Int.toNat n25) * 3)), [.string s36]), ((a1.add 2), [.slice p32 l33 l34]), ((a12.add 2), [.slice p29 l30 l31])] <|
     T.sem Try.prog (Instr.buildSlice 22 1 #[(0, .agg #[.string s36, .slice p45 l46 l47, .int .u32 n48])]) false [(false, [.slice 0])] <| fun (p49 : Option Addr) (l50 : Nat) (l51 : Nat) =>
     T.stable [(((a40.add ((Int.toNat n25) * 3)).add 1), [.slice p41 l42 l43, .int .u32 n44]), ((a1.add 2), [.slice p37 l38 l39]), ((a35.add ((Int.toNat n25) * 3)), [.string s36]), ((a1.add 2), [.slice p32 l33 l34]), ((a12.add 2), [.slice p29 l30 l31])] <|
     T.sem Try.prog (Builtin.append_ #[22, 22] 22 #[.slice p29 l30 l31, .slice p49 l50 l51]) false [(false, [.slice 0])] <| fun (p52 : Option Addr) (l53 : Nat) (l54 : Nat) =>
     T.stable [(((a40.add ((Int.toNat n25) * 3)).add 1), [.slice p41 l42 l43, .int .u32 n44]), ((a1.add 2), [.slice p37 l38 l39]), ((a35.add ((Int.toNat n25) * 3)), [.string s36]), ((a1.add 2), [.slice p32 l33 l34])] <|
     T.stores (a12.add 2) [.slice p52 l53 l54] <|
     T.again 0 [.int .i64 (IntKind.wrap .i64 (n25 + (1 : Int)))])
     (T.loads a12 [.slice 94, .slice 94, .slice 38, .slice 9] <| fun (p29 : Option Addr) (l30 : Nat) (l31 : Nat) (p32 : Option Addr) (l33 : Nat) (l34 : Nat) (p35 : Option Addr) (l36 : Nat) (l37 : Nat) (p38 : Option Addr) (l39 : Nat) (l40 : Nat) =>
     T.stores a2 [.slice p29 l30 l31, .slice p32 l33 l34, .slice p35 l36 l37, .slice p38 l39 l40] <|
     T.loads a2 [.slice 94, .slice 94, .slice 38, .slice 9] <| fun (p41 : Option Addr) (l42 : Nat) (l43 : Nat) (p44 : Option Addr) (l45 : Nat) (l46 : Nat) (p47 : Option Addr) (l48 : Nat) (l49 : Nat) (p50 : Option Addr) (l51 : Nat) (l52 : Nat) =>
     T.ret (.agg #[.slice p41 l42 l43, .slice p44 l45 l46, .slice p47 l48 l49, .slice p50 l51 l52])))]),
   (T.sem Try.prog (Instr.buildSlice 29 0 #[]) false [(false, [.slice 0])] <| fun (p13 : Option Addr) (l14 : Nat) (l15 : Nat) =>
   T.stable [((a1.add 3), [.slice p9 l10 l11]), ((a1.add 1), [.slice p6 l7 l8]), (a1, [.slice p3 l4 l5])] <|
   T.call Try.prog 31 [.slice p3 l4 l5] false [(false, [.slice 94])] <| fun (p16 : Option Addr) (l17 : Nat) (l18 : Nat) =>
   T.stable [((a1.add 3), [.slice p9 l10 l11]), ((a1.add 1), [.slice p6 l7 l8])] <|
   T.call Try.prog 31 [.slice p6 l7 l8] false [(false, [.slice 94])] <| fun (p19 : Option Addr) (l20 : Nat) (l21 : Nat) =>
   T.stable [((a1.add 3), [.slice p9 l10 l11]), (a1, [.slice p3 l4 l5])] <|
   T.sem Try.prog (Builtin.append_ #[29, 29] 29 #[.slice p13 l14 l15, .slice p9 l10 l11]) false [(false, [.slice 0])] <| fun (p22 : Option Addr) (l23 : Nat) (l24 : Nat) =>
   T.stable [((a1.add 1), [.slice p6 l7 l8]), (a1, [.slice p3 l4 l5])] <|
   T.stores a12 [.slice p16 l17 l18, .slice p19 l20 l21, .slice none 0 0, .slice p22 l23 l24] <|
   T.loop [(false, [.int .i64])] [.int .i64 (0 : Int)] <| fun (n25 : Int) =>
   T.loads (a1.add 2) [.slice 38] <| fun (p26 : Option Addr) (l27 : Nat) (l28 : Nat) =>
   cond (decide (n25 < (l27 : Int)))
    (T.loads (a12.add 2) [.slice 38] <| fun (p29 : Option Addr) (l30 : Nat) (l31 : Nat) =>
    T.loads (a1.add 2) [.slice 38] <| fun (p32 : Option Addr) (l33 : Nat) (l34 : Nat) =>
    T.need (((0 : Int) ≤ n25) ∧ (n25 < (l33 : Int))) <|
    T.osome p32 <| fun (a35 : Addr) =>
    T.loads (a35.add ((Int.toNat n25) * 3)) [.string] <| fun (s36 : ByteArray) =>
    T.loads (a1.add 2) [.slice 38] <| fun (p37 : Option Addr) (l38 : Nat) (l39 : Nat) =>
    T.need (((0 : Int) ≤ n25) ∧ (n25 < (l38 : Int))) <|
    T.osome p37 <| fun (a40 : Addr) =>
    T.loads ((a40.add ((Int.toNat n25) * 3)).add 1) [.slice 40, .int .u32] <| fun (p41 : Option Addr) (l42 : Nat) (l43 : Nat) (n44 : Int) =>
    T.call Try.prog 32 [.agg #[.slice p41 l42 l43, .int .u32 n44]] false [(true, [.slice 40, .int .u32])] <| fun (p45 : Option Addr) (l46 : Nat) (l47 : Nat) (n48 : Int) =>
    T.stable [((a1.add 2), [.slice p37 l38 l39]), ((a35.add ((Int.toNat n25) * 3)), [.string s36]), ((a1.add 2), [.slice p32 l33 l34]), ((a12.add 2), [.slice p29 l30 l31])] <|
    T.sem Try.prog (Instr.buildSlice 22 1 #[(0, .agg #[.string s36, .slice p45 l46 l47, .int .u32 n48])]) false [(false, [.slice 0])] <| fun (p49 : Option Addr) (l50 : Nat) (l51 : Nat) =>
    T.stable [(((a40.add ((Int.toNat n25) * 3)).add 1), [.slice p41 l42 l43, .int .u32 n44]), ((a1.add 2), [.slice p37 l38 l39]), ((a35.add ((Int.toNat n25) * 3)), [.string s36]), ((a1.add 2), [.slice p32 l33 l34]), ((a12.add 2), [.slice p29 l30 l31])] <|
    T.sem Try.prog (Builtin.append_ #[22, 22] 22 #[.slice p29 l30 l31, .slice p49 l50 l51]) false [(false, [.slice 0])] <| fun (p52 : Option Addr) (l53 : Nat) (l54 : Nat) =>
    T.stable [(((a40.add ((Int.toNat n25) * 3)).add 1), [.slice p41 l42 l43, .int .u32 n44]), ((a1.add 2), [.slice p37 l38 l39]), ((a35.add ((Int.toNat n25) * 3)), [.string s36]), ((a1.add 2), [.slice p32 l33 l34])] <|
    T.stores (a12.add 2) [.slice p52 l53 l54] <|
    T.again 0 [.int .i64 (IntKind.wrap .i64 (n25 + (1 : Int)))])
    (T.loads a12 [.slice 94, .slice 94, .slice 38, .slice 9] <| fun (p29 : Option Addr) (l30 : Nat) (l31 : Nat) (p32 : Option Addr) (l33 : Nat) (l34 : Nat) (p35 : Option Addr) (l36 : Nat) (l37 : Nat) (p38 : Option Addr) (l39 : Nat) (l40 : Nat) =>
    T.stores a2 [.slice p29 l30 l31, .slice p32 l33 l34, .slice p35 l36 l37, .slice p38 l39 l40] <|
    T.loads a2 [.slice 94, .slice 94, .slice 38, .slice 9] <| fun (p41 : Option Addr) (l42 : Nat) (l43 : Nat) (p44 : Option Addr) (l45 : Nat) (l46 : Nat) (p47 : Option Addr) (l48 : Nat) (l49 : Nat) (p50 : Option Addr) (l51 : Nat) (l52 : Nat) =>
    T.ret (.agg #[.slice p41 l42 l43, .slice p44 l45 l46, .slice p47 l48 l49, .slice p50 l51 l52])))])]
theorem t_spandrelkeep_CopyUnit_eq (pp00 : Option Addr) (ll00 cc00 : Nat) (pp01 : Option Addr) (ll01 cc01 : Nat) (pp02 : Option Addr) (ll02 cc02 : Nat) (pp03 : Option Addr) (ll03 cc03 : Nat) : xfun Try.prog [] Try.f13 [.agg #[.slice pp00 ll00 cc00, .slice pp01 ll01 cc01, .slice pp02 ll02 cc02, .slice pp03 ll03 cc03]] = t_spandrelkeep_CopyUnit pp00 ll00 cc00 pp01 ll01 cc01 pp02 ll02 cc02 pp03 ll03 cc03 := by kernel_rfl

/-- The tree of 18. -/
def t_spandrelkeep_SameEqus (pp00 : Option Addr) (ll00 cc00 : Nat) (pp10 : Option Addr) (ll10 cc10 : Nat) : T :=
 cond ((ll00 : Int) != (ll10 : Int))
  (T.ret (.bool false))
  (T.loop [(false, [.bool]), (false, [.int .i64])] [.bool false, .int .i64 (0 : Int)] <| fun (b2 : Bool) (n3 : Int) =>
  cond (decide (n3 < (ll00 : Int)))
   (T.need (((0 : Int) ≤ n3) ∧ (n3 < (ll00 : Int))) <|
   T.osome pp00 <| fun (a4 : Addr) =>
   T.loads (a4.add ((Int.toNat n3) * 3)) [.string] <| fun (s5 : ByteArray) =>
   T.need (((0 : Int) ≤ n3) ∧ (n3 < (ll10 : Int))) <|
   T.osome pp10 <| fun (a6 : Addr) =>
   T.loads (a6.add ((Int.toNat n3) * 3)) [.string] <| fun (s7 : ByteArray) =>
   cond (!((ByteArray.toList s5) == (ByteArray.toList s7)))
    (T.ret (.bool false))
    (T.need (((0 : Int) ≤ n3) ∧ (n3 < (ll00 : Int))) <|
    T.osome pp00 <| fun (a8 : Addr) =>
    T.loads ((a8.add ((Int.toNat n3) * 3)).add 1) [.slice 40, .int .u32] <| fun (p9 : Option Addr) (l10 : Nat) (l11 : Nat) (n12 : Int) =>
    T.need (((0 : Int) ≤ n3) ∧ (n3 < (ll10 : Int))) <|
    T.osome pp10 <| fun (a13 : Addr) =>
    T.loads ((a13.add ((Int.toNat n3) * 3)).add 1) [.slice 40, .int .u32] <| fun (p14 : Option Addr) (l15 : Nat) (l16 : Nat) (n17 : Int) =>
    T.call Try.prog 20 [.agg #[.slice p9 l10 l11, .int .u32 n12], .agg #[.slice p14 l15 l16, .int .u32 n17]] false [(false, [.bool])] <| fun (b18 : Bool) =>
    T.stable [((a6.add ((Int.toNat n3) * 3)), [.string s7]), ((a4.add ((Int.toNat n3) * 3)), [.string s5])] <|
    cond (!b18)
     (T.ret (.bool false))
     (T.again 0 [.bool b2, .int .i64 (IntKind.wrap .i64 (n3 + (1 : Int)))])))
   (T.ret (.bool true)))
theorem t_spandrelkeep_SameEqus_eq (pp00 : Option Addr) (ll00 cc00 : Nat) (pp10 : Option Addr) (ll10 cc10 : Nat) : xfun Try.prog [] Try.f18 [.slice pp00 ll00 cc00, .slice pp10 ll10 cc10] = t_spandrelkeep_SameEqus pp00 ll00 cc00 pp10 ll10 cc10 := by kernel_rfl

/-- The tree of 19. -/
def t_spandrellaw11_of (s0 : ByteArray) (s1 : ByteArray) (n2 : Int) (n3 : Int) : T :=
 T.new [.string ⟨#[]⟩, .slice none 0 0, .int .u32 (0 : Int)] 38 <| fun (a4 : Addr) =>
 T.sem Try.prog (Instr.buildSlice 33 1 #[(0, .agg #[.string s1, .int .u32 n2])]) false [(false, [.slice 0])] <| fun (p5 : Option Addr) (l6 : Nat) (l7 : Nat) =>
 T.stores a4 [.string s0, .slice p5 l6 l7, .int .u32 n3] <|
 T.loads a4 [.string, .slice 40, .int .u32] <| fun (s8 : ByteArray) (p9 : Option Addr) (l10 : Nat) (l11 : Nat) (n12 : Int) =>
 T.ret (.agg #[.string s8, .slice p9 l10 l11, .int .u32 n12])
theorem t_spandrellaw11_of_eq (s0 : ByteArray) (s1 : ByteArray) (n2 : Int) (n3 : Int) : xfun Try.prog [] Try.f19 [.string s0, .string s1, .int .u32 n2, .int .u32 n3] = t_spandrellaw11_of s0 s1 n2 n3 := by kernel_rfl

/-- The tree of 7. -/
def t_spandrellaw11_right (pp00 : Option Addr) (ll00 cc00 : Nat) : T :=
 cond (decide ((ll00 : Int) > (60 : Int)))
  (T.ret (.bool false))
  (T.loop [(false, [.bool]), (false, [.int .i64])] [.bool false, .int .i64 (0 : Int)] <| fun (b1 : Bool) (n2 : Int) =>
  cond (decide (n2 < (ll00 : Int)))
   (T.need (((0 : Int) ≤ n2) ∧ (n2 < (ll00 : Int))) <|
   T.osome pp00 <| fun (a3 : Addr) =>
   T.loads (a3.add ((Int.toNat n2) * 3)) [.string] <| fun (s4 : ByteArray) =>
   T.call Try.prog 24 [.string s4] false [(false, [.bool])] <| fun (b5 : Bool) =>
   cond (!b5)
    (T.ret (.bool false))
    (T.need (((0 : Int) ≤ n2) ∧ (n2 < (ll00 : Int))) <|
    T.osome pp00 <| fun (a6 : Addr) =>
    T.loads ((a6.add ((Int.toNat n2) * 3)).add 1) [.slice 40, .int .u32] <| fun (p7 : Option Addr) (l8 : Nat) (l9 : Nat) (n10 : Int) =>
    T.call Try.prog 12 [.agg #[.slice p7 l8 l9, .int .u32 n10]] false [(false, [.bool])] <| fun (b11 : Bool) =>
    cond (!b11)
     (T.ret (.bool false))
     (T.loop [(false, [.bool]), (false, [.int .i64])] [.bool b1, .int .i64 (0 : Int)] <| fun (b12 : Bool) (n13 : Int) =>
     cond (decide (n13 < n2))
      (T.need (((0 : Int) ≤ n13) ∧ (n13 < (ll00 : Int))) <|
      T.osome pp00 <| fun (a14 : Addr) =>
      T.loads (a14.add ((Int.toNat n13) * 3)) [.string] <| fun (s15 : ByteArray) =>
      T.need (((0 : Int) ≤ n2) ∧ (n2 < (ll00 : Int))) <|
      T.osome pp00 <| fun (a16 : Addr) =>
      T.loads (a16.add ((Int.toNat n2) * 3)) [.string] <| fun (s17 : ByteArray) =>
      cond ((ByteArray.toList s15) == (ByteArray.toList s17))
       (T.ret (.bool false))
       (T.again 1 [.bool b12, .int .i64 (IntKind.wrap .i64 (n13 + (1 : Int)))]))
      (T.again 0 [.bool b12, .int .i64 (IntKind.wrap .i64 (n2 + (1 : Int)))]))))
   (T.ret (.bool true)))
theorem t_spandrellaw11_right_eq (pp00 : Option Addr) (ll00 cc00 : Nat) : xfun Try.prog [] Try.f7 [.slice pp00 ll00 cc00] = t_spandrellaw11_right pp00 ll00 cc00 := by kernel_rfl

/-- The tree of 8. -/
def t_spandrellaw11_known  : T :=
 T.call Try.prog 19 [.string ⟨#[97]⟩, .string ⟨#[98]⟩, .int .u32 (2 : Int), .int .u32 (1 : Int)] false [(true, [.string, .slice 40, .int .u32])] <| fun (s1 : ByteArray) (p2 : Option Addr) (l3 : Nat) (l4 : Nat) (n5 : Int) =>
 T.call Try.prog 19 [.string ⟨#[98]⟩, .string ⟨#[99]⟩, .int .u32 (1 : Int), .int .u32 (4294967293 : Int)] false [(true, [.string, .slice 40, .int .u32])] <| fun (s6 : ByteArray) (p7 : Option Addr) (l8 : Nat) (l9 : Nat) (n10 : Int) =>
 T.sem Try.prog (Instr.buildSlice 22 2 #[(0, .agg #[.string s1, .slice p2 l3 l4, .int .u32 n5]), (1, .agg #[.string s6, .slice p7 l8 l9, .int .u32 n10])]) false [(false, [.slice 0])] <| fun (p11 : Option Addr) (l12 : Nat) (l13 : Nat) =>
 T.call Try.prog 9 [.slice p11 l12 l13] true [(false, [.slice 38]), (false, [.int .i64]), (false, [.int .i64])] <| fun (p14 : Option Addr) (l15 : Nat) (l16 : Nat) (n17 : Int) (n18 : Int) =>
 T.call Try.prog 19 [.string ⟨#[120]⟩, .string ⟨#[97]⟩, .int .u32 (1 : Int), .int .u32 (0 : Int)] false [(true, [.string, .slice 40, .int .u32])] <| fun (s19 : ByteArray) (p20 : Option Addr) (l21 : Nat) (l22 : Nat) (n23 : Int) =>
 T.call Try.prog 19 [.string ⟨#[97]⟩, .string ⟨#[98]⟩, .int .u32 (1 : Int), .int .u32 (0 : Int)] false [(true, [.string, .slice 40, .int .u32])] <| fun (s24 : ByteArray) (p25 : Option Addr) (l26 : Nat) (l27 : Nat) (n28 : Int) =>
 T.call Try.prog 19 [.string ⟨#[98]⟩, .string ⟨#[97]⟩, .int .u32 (1 : Int), .int .u32 (0 : Int)] false [(true, [.string, .slice 40, .int .u32])] <| fun (s29 : ByteArray) (p30 : Option Addr) (l31 : Nat) (l32 : Nat) (n33 : Int) =>
 T.sem Try.prog (Instr.buildSlice 22 3 #[(0, .agg #[.string s19, .slice p20 l21 l22, .int .u32 n23]), (1, .agg #[.string s24, .slice p25 l26 l27, .int .u32 n28]), (2, .agg #[.string s29, .slice p30 l31 l32, .int .u32 n33])]) false [(false, [.slice 0])] <| fun (p34 : Option Addr) (l35 : Nat) (l36 : Nat) =>
 T.call Try.prog 9 [.slice p34 l35 l36] true [(false, [.slice 38]), (false, [.int .i64]), (false, [.int .i64])] <| fun (p37 : Option Addr) (l38 : Nat) (l39 : Nat) (n40 : Int) (n41 : Int) =>
 cond (n18 == (0 : Int))
  (T.call Try.prog 19 [.string ⟨#[97]⟩, .string ⟨#[99]⟩, .int .u32 (2 : Int), .int .u32 (4294967291 : Int)] false [(true, [.string, .slice 40, .int .u32])] <| fun (s42 : ByteArray) (p43 : Option Addr) (l44 : Nat) (l45 : Nat) (n46 : Int) =>
  T.call Try.prog 19 [.string ⟨#[98]⟩, .string ⟨#[99]⟩, .int .u32 (1 : Int), .int .u32 (4294967293 : Int)] false [(true, [.string, .slice 40, .int .u32])] <| fun (s47 : ByteArray) (p48 : Option Addr) (l49 : Nat) (l50 : Nat) (n51 : Int) =>
  T.sem Try.prog (Instr.buildSlice 22 2 #[(0, .agg #[.string s42, .slice p43 l44 l45, .int .u32 n46]), (1, .agg #[.string s47, .slice p48 l49 l50, .int .u32 n51])]) false [(false, [.slice 0])] <| fun (p52 : Option Addr) (l53 : Nat) (l54 : Nat) =>
  T.call Try.prog 18 [.slice p14 l15 l16, .slice p52 l53 l54] false [(false, [.bool])] <| fun (b55 : Bool) =>
  cond b55
   (cond (n40 == (1 : Int))
    (T.ret (.bool (n41 == (24 : Int))))
    (T.ret (.bool false)))
   (T.ret (.bool false)))
  (T.ret (.bool false))
theorem t_spandrellaw11_known_eq  : xfun Try.prog [] Try.f8 [] = t_spandrellaw11_known  := by kernel_rfl

end Go.Sx
