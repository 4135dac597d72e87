/- Trees of functions, each checked by the kernel against the code. No condition. -/
import Derived.Test.YtpbjlnlekobodaaDoorSxF
import Derived.Test.YtpbjlnlekobodaaDoorProg
import Derived.KernelRfl
set_option linter.unusedVariables false
set_option linter.unusedSimpArgs false
set_option linter.deprecated false
set_option maxRecDepth 100000
namespace Go.Sx
open Go.Proofs
/-- The tree of 99. -/
def t_spandrelref4_Add (pp00 : Option Addr) (ll00 cc00 : Nat) (n1_0 : Int) (pp10 : Option Addr) (ll10 cc10 : Nat) (n1_1 : Int) : T :=
 T.new [.slice pp00 ll00 cc00, .int .u32 n1_0] 69 <| fun (a2 : Addr) =>
 T.new [.slice pp10 ll10 cc10, .int .u32 n1_1] 69 <| fun (a3 : Addr) =>
 T.new [.slice none 0 0, .int .u32 (0 : Int)] 69 <| fun (a4 : Addr) =>
 T.loads (a2.add 1) [.int .u32] <| fun (n5 : Int) =>
 T.loads (a3.add 1) [.int .u32] <| fun (n6 : Int) =>
 T.new [.slice none 0 0, .int .u32 (0 : Int)] 69 <| fun (a7 : Addr) =>
 T.stores a7 [.slice none 0 0, .int .u32 (IntKind.wrap .u32 (n5 + n6))] <|
 T.loop [(false, [.int .i64]), (false, [.int .i64])] [.int .i64 (0 : Int), .int .i64 (0 : Int)] <| fun (n8 : Int) (n9 : Int) =>
 T.join [(false, [.bool])]
  (T.loads a2 [.slice 80] <| fun (p10 : Option Addr) (l11 : Nat) (l12 : Nat) =>
  cond (decide (n8 < (l11 : Int)))
   (T.again 1 [.bool true])
   (T.loads a3 [.slice 80] <| fun (p13 : Option Addr) (l14 : Nat) (l15 : Nat) =>
   T.again 1 [.bool (decide (n9 < (l14 : Int)))])) <| fun (b10 : Bool) =>
 cond b10
  (T.join [(false, [.bool])]
   (T.loads a3 [.slice 80] <| fun (p11 : Option Addr) (l12 : Nat) (l13 : Nat) =>
   cond (n9 == (l12 : Int))
    (T.again 1 [.bool true])
    (T.loads a2 [.slice 80] <| fun (p14 : Option Addr) (l15 : Nat) (l16 : Nat) =>
    cond (decide (n8 < (l15 : Int)))
     (T.loads a2 [.slice 80] <| fun (p17 : Option Addr) (l18 : Nat) (l19 : Nat) =>
     T.need (((0 : Int) ≤ n8) ∧ (n8 < (l18 : Int))) <|
     T.osome p17 <| fun (a20 : Addr) =>
     T.loads (a20.add ((Int.toNat n8) * 2)) [.string] <| fun (s21 : ByteArray) =>
     T.loads a3 [.slice 80] <| fun (p22 : Option Addr) (l23 : Nat) (l24 : Nat) =>
     T.need (((0 : Int) ≤ n9) ∧ (n9 < (l23 : Int))) <|
     T.osome p22 <| fun (a25 : Addr) =>
     T.loads (a25.add ((Int.toNat n9) * 2)) [.string] <| fun (s26 : ByteArray) =>
     T.again 1 [.bool (Op.bytesLess (ByteArray.toList s21) (ByteArray.toList s26))])
     (T.again 1 [.bool false]))) <| fun (b11 : Bool) =>
  cond b11
   (T.loads a7 [.slice 80] <| fun (p12 : Option Addr) (l13 : Nat) (l14 : Nat) =>
   T.loads a2 [.slice 80] <| fun (p15 : Option Addr) (l16 : Nat) (l17 : Nat) =>
   T.need (((0 : Int) ≤ n8) ∧ (n8 < (l16 : Int))) <|
   T.osome p15 <| fun (a18 : Addr) =>
   T.loads (a18.add ((Int.toNat n8) * 2)) [.string, .int .u32] <| fun (s19 : ByteArray) (n20 : Int) =>
   T.sem Tryd.prog (Instr.buildSlice 67 1 #[(0, .agg #[.string s19, .int .u32 n20])]) false [(false, [.slice 0])] <| fun (p21 : Option Addr) (l22 : Nat) (l23 : Nat) =>
   T.stable [(a2, [.slice p15 l16 l17]), (a7, [.slice p12 l13 l14])] <|
   T.sem Tryd.prog (Builtin.append_ #[67, 67] 67 #[.slice p12 l13 l14, .slice p21 l22 l23]) false [(false, [.slice 0])] <| fun (p24 : Option Addr) (l25 : Nat) (l26 : Nat) =>
   T.stable [((a18.add ((Int.toNat n8) * 2)), [.string s19, .int .u32 n20]), (a2, [.slice p15 l16 l17])] <|
   T.stores a7 [.slice p24 l25 l26] <|
   T.again 0 [.int .i64 (IntKind.wrap .i64 (n8 + (1 : Int))), .int .i64 n9])
   (T.join [(false, [.bool])]
    (T.loads a2 [.slice 80] <| fun (p12 : Option Addr) (l13 : Nat) (l14 : Nat) =>
    cond (n8 == (l13 : Int))
     (T.again 1 [.bool true])
     (T.loads a3 [.slice 80] <| fun (p15 : Option Addr) (l16 : Nat) (l17 : Nat) =>
     T.need (((0 : Int) ≤ n9) ∧ (n9 < (l16 : Int))) <|
     T.osome p15 <| fun (a18 : Addr) =>
     T.loads (a18.add ((Int.toNat n9) * 2)) [.string] <| fun (s19 : ByteArray) =>
     T.loads a2 [.slice 80] <| fun (p20 : Option Addr) (l21 : Nat) (l22 : Nat) =>
     T.need (((0 : Int) ≤ n8) ∧ (n8 < (l21 : Int))) <|
     T.osome p20 <| fun (a23 : Addr) =>
     T.loads (a23.add ((Int.toNat n8) * 2)) [.string] <| fun (s24 : ByteArray) =>
     T.again 1 [.bool (Op.bytesLess (ByteArray.toList s19) (ByteArray.toList s24))])) <| fun (b12 : Bool) =>
   cond b12
    (T.loads a7 [.slice 80] <| fun (p13 : Option Addr) (l14 : Nat) (l15 : Nat) =>
    T.loads a3 [.slice 80] <| fun (p16 : Option Addr) (l17 : Nat) (l18 : Nat) =>
    T.need (((0 : Int) ≤ n9) ∧ (n9 < (l17 : Int))) <|
    T.osome p16 <| fun (a19 : Addr) =>
    T.loads (a19.add ((Int.toNat n9) * 2)) [.string, .int .u32] <| fun (s20 : ByteArray) (n21 : Int) =>
    T.sem Tryd.prog (Instr.buildSlice 67 1 #[(0, .agg #[.string s20, .int .u32 n21])]) false [(false, [.slice 0])] <| fun (p22 : Option Addr) (l23 : Nat) (l24 : Nat) =>
    T.stable [(a3, [.slice p16 l17 l18]), (a7, [.slice p13 l14 l15])] <|
    T.sem Tryd.prog (Builtin.append_ #[67, 67] 67 #[.slice p13 l14 l15, .slice p22 l23 l24]) false [(false, [.slice 0])] <| fun (p25 : Option Addr) (l26 : Nat) (l27 : Nat) =>
    T.stable [((a19.add ((Int.toNat n9) * 2)), [.string s20, .int .u32 n21]), (a3, [.slice p16 l17 l18])] <|
    T.stores a7 [.slice p25 l26 l27] <|
    T.again 0 [.int .i64 n8, .int .i64 (IntKind.wrap .i64 (n9 + (1 : Int)))])
    (T.loads a2 [.slice 80] <| fun (p13 : Option Addr) (l14 : Nat) (l15 : Nat) =>
    T.need (((0 : Int) ≤ n8) ∧ (n8 < (l14 : Int))) <|
    T.osome p13 <| fun (a16 : Addr) =>
    T.loads ((a16.add ((Int.toNat n8) * 2)).add 1) [.int .u32] <| fun (n17 : Int) =>
    T.loads a3 [.slice 80] <| fun (p18 : Option Addr) (l19 : Nat) (l20 : Nat) =>
    T.need (((0 : Int) ≤ n9) ∧ (n9 < (l19 : Int))) <|
    T.osome p18 <| fun (a21 : Addr) =>
    T.loads ((a21.add ((Int.toNat n9) * 2)).add 1) [.int .u32] <| fun (n22 : Int) =>
    T.join []
     (cond ((IntKind.wrap .u32 (n17 + n22)) != (0 : Int))
      (T.loads a7 [.slice 80] <| fun (p23 : Option Addr) (l24 : Nat) (l25 : Nat) =>
      T.loads a2 [.slice 80] <| fun (p26 : Option Addr) (l27 : Nat) (l28 : Nat) =>
      T.need (((0 : Int) ≤ n8) ∧ (n8 < (l27 : Int))) <|
      T.osome p26 <| fun (a29 : Addr) =>
      T.loads (a29.add ((Int.toNat n8) * 2)) [.string] <| fun (s30 : ByteArray) =>
      T.sem Tryd.prog (Instr.buildSlice 67 1 #[(0, .agg #[.string s30, .int .u32 (IntKind.wrap .u32 (n17 + n22))])]) false [(false, [.slice 0])] <| fun (p31 : Option Addr) (l32 : Nat) (l33 : Nat) =>
      T.stable [((a29.add ((Int.toNat n8) * 2)), [.string s30]), (a2, [.slice p26 l27 l28]), (a7, [.slice p23 l24 l25])] <|
      T.sem Tryd.prog (Builtin.append_ #[67, 67] 67 #[.slice p23 l24 l25, .slice p31 l32 l33]) false [(false, [.slice 0])] <| fun (p34 : Option Addr) (l35 : Nat) (l36 : Nat) =>
      T.stable [((a29.add ((Int.toNat n8) * 2)), [.string s30]), (a2, [.slice p26 l27 l28])] <|
      T.stores a7 [.slice p34 l35 l36] <|
      T.again 1 [])
      (T.again 1 [])) <| T.again 0 [.int .i64 (IntKind.wrap .i64 (n8 + (1 : Int))), .int .i64 (IntKind.wrap .i64 (n9 + (1 : Int)))])))
  (T.loads a7 [.slice 80, .int .u32] <| fun (p11 : Option Addr) (l12 : Nat) (l13 : Nat) (n14 : Int) =>
  T.stores a4 [.slice p11 l12 l13, .int .u32 n14] <|
  T.loads a4 [.slice 80, .int .u32] <| fun (p15 : Option Addr) (l16 : Nat) (l17 : Nat) (n18 : Int) =>
  T.ret (.agg #[.slice p15 l16 l17, .int .u32 n18]))
theorem t_spandrelref4_Add_eq (pp00 : Option Addr) (ll00 cc00 : Nat) (n1_0 : Int) (pp10 : Option Addr) (ll10 cc10 : Nat) (n1_1 : Int) : xfun Tryd.prog [4, 5, 8, 1014] Tryd.f99 [.agg #[.slice pp00 ll00 cc00, .int .u32 n1_0], .agg #[.slice pp10 ll10 cc10, .int .u32 n1_1]] = t_spandrelref4_Add pp00 ll00 cc00 n1_0 pp10 ll10 cc10 n1_1 := by kernel_rfl

/-- The tree of 45. -/
def t_spandrelbook_Roomy_lex_Token_ (pp00 : Option Addr) (ll00 cc00 : Nat) (n1 : Int) (s1_1 : ByteArray) (n2_1 : Int) (n3_1 : Int) : T :=
 T.new [.int .i64 n1, .string s1_1, .int .u32 n2_1, .int .i64 n3_1] 35 <| fun (a2 : Addr) =>
 T.sem Tryd.prog (Instr.makeSlice 23 (.int .i64 (IntKind.wrap .i64 ((ll00 : Int) + (80 : Int)))) (.int .i64 (IntKind.wrap .i64 ((ll00 : Int) + (80 : Int))))) false [(false, [.slice 0])] <| fun (p3 : Option Addr) (l4 : Nat) (l5 : Nat) =>
 T.sem Tryd.prog (Builtin.copy_ #[23, 23] 3 #[.slice p3 l4 l5, .slice pp00 ll00 cc00]) false [(false, [.int .i64])] <| fun (n6 : Int) =>
 T.loop [(false, [.int .i64])] [.int .i64 (ll00 : Int)] <| fun (n7 : Int) =>
 cond (decide (n7 < (l4 : Int)))
  (T.loads a2 [.int .i64, .string, .int .u32, .int .i64] <| fun (n8 : Int) (s9 : ByteArray) (n10 : Int) (n11 : Int) =>
  T.need (((0 : Int) ≤ n7) ∧ (n7 < (l4 : Int))) <|
  T.osome p3 <| fun (a12 : Addr) =>
  T.stores (a12.add ((Int.toNat n7) * 4)) [.int .i64 n8, .string s9, .int .u32 n10, .int .i64 n11] <|
  T.again 0 [.int .i64 (IntKind.wrap .i64 (n7 + (1 : Int)))])
  (T.ret (.slice p3 l4 l5))
theorem t_spandrelbook_Roomy_lex_Token__eq (pp00 : Option Addr) (ll00 cc00 : Nat) (n1 : Int) (s1_1 : ByteArray) (n2_1 : Int) (n3_1 : Int) : xfun Tryd.prog [] Tryd.f45 [.slice pp00 ll00 cc00, .agg #[.int .i64 n1, .string s1_1, .int .u32 n2_1, .int .i64 n3_1]] = t_spandrelbook_Roomy_lex_Token_ pp00 ll00 cc00 n1 s1_1 n2_1 n3_1 := by kernel_rfl

/-- The tree of 49. -/
def t_spandrelbook_Intact_lex_Token_ (pp00 : Option Addr) (ll00 cc00 : Nat) (pp10 : Option Addr) (ll10 cc10 : Nat) (n2 : Int) (s1_2 : ByteArray) (n2_2 : Int) (n3_2 : Int) : T :=
 T.new [.int .i64 n2, .string s1_2, .int .u32 n2_2, .int .i64 n3_2] 35 <| fun (a3 : Addr) =>
 T.join [(false, [.bool])]
  (cond ((ll00 : Int) != (IntKind.wrap .i64 ((ll10 : Int) + (80 : Int))))
   (T.again 0 [.bool true])
   (T.need (((0 : Int) ≤ (0 : Int)) ∧ (((0 : Int) ≤ (ll10 : Int)) ∧ ((ll10 : Int) ≤ (cc00 : Int)))) <|
   T.call Tryd.prog 25 [.slice (if (cc00 = 0) then pp00 else (Option.map (fun a => Addr.add a 0) pp00)) ((Int.toNat (ll10 : Int)) - 0) (cc00 - 0), .slice pp10 ll10 cc10] false [(false, [.bool])] <| fun (b4 : Bool) =>
   T.again 0 [.bool (!b4)])) <| fun (b4 : Bool) =>
 cond b4
  (T.ret (.bool false))
  (T.loop [(false, [.bool]), (false, [.int .i64])] [.bool false, .int .i64 (ll10 : Int)] <| fun (b5 : Bool) (n6 : Int) =>
  cond (decide (n6 < (ll00 : Int)))
   (T.need (((0 : Int) ≤ n6) ∧ (n6 < (ll00 : Int))) <|
   T.osome pp00 <| fun (a7 : Addr) =>
   T.loads (a7.add ((Int.toNat n6) * 4)) [.int .i64, .string, .int .u32, .int .i64] <| fun (n8 : Int) (s9 : ByteArray) (n10 : Int) (n11 : Int) =>
   T.loads a3 [.int .i64, .string, .int .u32, .int .i64] <| fun (n12 : Int) (s13 : ByteArray) (n14 : Int) (n15 : Int) =>
   T.sem Tryd.prog (Sx.cmpS (BinOp.neq) 35 (Operand.tmp 34) (Operand.tmp 35) (.agg #[.int .i64 n8, .string s9, .int .u32 n10, .int .i64 n11]) (.agg #[.int .i64 n12, .string s13, .int .u32 n14, .int .i64 n15])) false [(false, [.bool])] <| fun (b16 : Bool) =>
   cond b16
    (T.ret (.bool false))
    (T.again 0 [.bool b5, .int .i64 (IntKind.wrap .i64 (n6 + (1 : Int)))]))
   (T.ret (.bool true)))
theorem t_spandrelbook_Intact_lex_Token__eq (pp00 : Option Addr) (ll00 cc00 : Nat) (pp10 : Option Addr) (ll10 cc10 : Nat) (n2 : Int) (s1_2 : ByteArray) (n2_2 : Int) (n3_2 : Int) : xfun Tryd.prog [1] Tryd.f49 [.slice pp00 ll00 cc00, .slice pp10 ll10 cc10, .agg #[.int .i64 n2, .string s1_2, .int .u32 n2_2, .int .i64 n3_2]] = t_spandrelbook_Intact_lex_Token_ pp00 ll00 cc00 pp10 ll10 cc10 n2 s1_2 n2_2 n3_2 := by kernel_rfl

/-- The tree of 14. -/
def t_spandrellaw4_ExprParses (s0 : ByteArray) : T :=
 T.call Tryd.prog 43 [.string s0, .int .i64 (500 : Int)] false [(false, [.string])] <| fun (s1 : ByteArray) =>
 T.call Tryd.prog 42 [.string s1] true [(false, [.slice 35]), (false, [.slice 105]), (false, [.bool])] <| fun (p2 : Option Addr) (l3 : Nat) (l4 : Nat) (p5 : Option Addr) (l6 : Nat) (l7 : Nat) (b8 : Bool) =>
 cond (!b8)
  (T.call Tryd.prog 44 [] false [(false, [.bool])] <| fun (b9 : Bool) =>
  T.ret (.bool b9))
  (T.call Tryd.prog 45 [.slice p2 l3 l4, .agg #[.int .i64 (-7 : Int), .string ⟨#[]⟩, .int .u32 (0 : Int), .int .i64 (0 : Int)]] false [(false, [.slice 35])] <| fun (p9 : Option Addr) (l10 : Nat) (l11 : Nat) =>
  T.need (((0 : Int) ≤ (0 : Int)) ∧ (((0 : Int) ≤ (l3 : Int)) ∧ ((l3 : Int) ≤ (l11 : Int)))) <|
  T.call Tryd.prog 46 [.slice (if (l11 = 0) then p9 else (Option.map (fun a => Addr.add a 0) p9)) ((Int.toNat (l3 : Int)) - 0) (l11 - 0)] true [(true, [.slice 80, .int .u32]), (false, [.int .i64])] <| fun (p12 : Option Addr) (l13 : Nat) (l14 : Nat) (n15 : Int) (n16 : Int) =>
  T.new [.slice none 0 0, .int .u32 (0 : Int)] 69 <| fun (a17 : Addr) =>
  T.stores a17 [.slice p12 l13 l14, .int .u32 n15] <|
  T.call Tryd.prog 47 [.slice p5 l6 l7] true [(true, [.slice 80, .int .u32]), (false, [.int .i64])] <| fun (p18 : Option Addr) (l19 : Nat) (l20 : Nat) (n21 : Int) (n22 : Int) =>
  T.new [.slice none 0 0, .int .u32 (0 : Int)] 69 <| fun (a23 : Addr) =>
  T.stores a23 [.slice p18 l19 l20, .int .u32 n21] <|
  T.loads a17 [.slice 80, .int .u32] <| fun (p24 : Option Addr) (l25 : Nat) (l26 : Nat) (n27 : Int) =>
  T.loads a23 [.slice 80, .int .u32] <| fun (p28 : Option Addr) (l29 : Nat) (l30 : Nat) (n31 : Int) =>
  T.call Tryd.prog 48 [.agg #[.slice p24 l25 l26, .int .u32 n27], .agg #[.slice p28 l29 l30, .int .u32 n31]] false [(false, [.bool])] <| fun (b32 : Bool) =>
  cond b32
   (cond (n16 == n22)
    (T.call Tryd.prog 49 [.slice p9 l10 l11, .slice p2 l3 l4, .agg #[.int .i64 (-7 : Int), .string ⟨#[]⟩, .int .u32 (0 : Int), .int .i64 (0 : Int)]] false [(false, [.bool])] <| fun (b33 : Bool) =>
    cond b33
     (T.call Tryd.prog 44 [] false [(false, [.bool])] <| fun (b34 : Bool) =>
     T.ret (.bool b34))
     (T.ret (.bool false)))
    (T.ret (.bool false)))
   (T.ret (.bool false)))
theorem t_spandrellaw4_ExprParses_eq (s0 : ByteArray) : xfun Tryd.prog [] Tryd.f14 [.string s0] = t_spandrellaw4_ExprParses s0 := by kernel_rfl

end Go.Sx
