/- The trees of Keep and Apart, each checked by the kernel against the code. No condition. -/
import Derived.Test.YtpbjlnlekobodaaDoorSxF
import Derived.Test.YtpbjlnlekobodaaDoorProg
import Derived.KernelRfl
set_option linter.unusedVariables false
set_option linter.unusedSimpArgs false
set_option linter.deprecated false
set_option maxRecDepth 100000
namespace Go.Sx
open Go.Proofs
/-- The tree of 26. -/
def t_spandrelbook_Book_lex_Token___Keep (p0 : Option Addr) (pp10 : Option Addr) (ll10 cc10 : Nat) : T :=
 T.join []
  (T.osome p0 <| fun (a2 : Addr) =>
  T.loads a2 [.slice 23] <| fun (p3 : Option Addr) (l4 : Nat) (l5 : Nat) =>
  T.sem Tryd.prog (Instr.buildSlice 38 1 #[(0, .slice pp10 ll10 cc10)]) false [(false, [.slice 0])] <| fun (p6 : Option Addr) (l7 : Nat) (l8 : Nat) =>
  T.sem Tryd.prog (Builtin.append_ #[38, 38] 38 #[.slice p3 l4 l5, .slice p6 l7 l8]) false [(false, [.slice 0])] <| fun (p9 : Option Addr) (l10 : Nat) (l11 : Nat) =>
  T.osome p0 <| fun (a12 : Addr) =>
  T.stores a12 [.slice p9 l10 l11] <|
  T.again 0 []) <| T.join []
  (T.osome p0 <| fun (a2 : Addr) =>
  T.loads (a2.add 1) [.slice 23] <| fun (p3 : Option Addr) (l4 : Nat) (l5 : Nat) =>
  T.sem Tryd.prog (Builtin.append_ #[23, 23] 23 #[.slice none 0 0, .slice pp10 ll10 cc10]) false [(false, [.slice 0])] <| fun (p6 : Option Addr) (l7 : Nat) (l8 : Nat) =>
  T.stable [((a2.add 1), [.slice p3 l4 l5])] <|
  T.sem Tryd.prog (Instr.buildSlice 38 1 #[(0, .slice p6 l7 l8)]) false [(false, [.slice 0])] <| fun (p9 : Option Addr) (l10 : Nat) (l11 : Nat) =>
  T.stable [((a2.add 1), [.slice p3 l4 l5])] <|
  T.sem Tryd.prog (Builtin.append_ #[38, 38] 38 #[.slice p3 l4 l5, .slice p9 l10 l11]) false [(false, [.slice 0])] <| fun (p12 : Option Addr) (l13 : Nat) (l14 : Nat) =>
  T.osome p0 <| fun (a15 : Addr) =>
  T.stores (a15.add 1) [.slice p12 l13 l14] <|
  T.again 0 []) <| T.osome p0 <| fun (a2 : Addr) =>
 T.loads (a2.add 2) [.int .i64] <| fun (n3 : Int) =>
 T.osome p0 <| fun (a4 : Addr) =>
 T.stores (a4.add 2) [.int .i64 (IntKind.wrap .i64 ((IntKind.wrap .i64 (n3 + (cc10 : Int))) + (1 : Int)))] <|
 T.loop [] [] <| T.join []
  (T.osome p0 <| fun (a5 : Addr) =>
  T.loads a5 [.slice 23] <| fun (p6 : Option Addr) (l7 : Nat) (l8 : Nat) =>
  cond (decide ((l7 : Int) > (1 : Int)))
   (T.osome p0 <| fun (a9 : Addr) =>
   T.loads (a9.add 2) [.int .i64] <| fun (n10 : Int) =>
   cond (decide (n10 > (1000000 : Int)))
    (T.again 1 [])
    (T.osome p0 <| fun (a11 : Addr) =>
    T.loads a11 [.slice 23] <| fun (p12 : Option Addr) (l13 : Nat) (l14 : Nat) =>
    cond (decide ((l13 : Int) > (4000 : Int)))
     (T.again 1 [])
     (T.ret (.tuple #[]))))
   (T.ret (.tuple #[]))) <| T.join []
  (T.osome p0 <| fun (a5 : Addr) =>
  T.loads (a5.add 3) [.bool] <| fun (b6 : Bool) =>
  cond b6
   (T.osome p0 <| fun (a7 : Addr) =>
   T.stores (a7.add 3) [.bool true] <|
   T.again 1 [])
   (T.osome p0 <| fun (a7 : Addr) =>
   T.loads a7 [.slice 23] <| fun (p8 : Option Addr) (l9 : Nat) (l10 : Nat) =>
   T.need (((0 : Int) ≤ (0 : Int)) ∧ ((0 : Int) < (l9 : Int))) <|
   T.osome p8 <| fun (a11 : Addr) =>
   T.loads a11 [.slice 35] <| fun (p12 : Option Addr) (l13 : Nat) (l14 : Nat) =>
   T.osome p0 <| fun (a15 : Addr) =>
   T.loads (a15.add 1) [.slice 23] <| fun (p16 : Option Addr) (l17 : Nat) (l18 : Nat) =>
   T.need (((0 : Int) ≤ (0 : Int)) ∧ ((0 : Int) < (l17 : Int))) <|
   T.osome p16 <| fun (a19 : Addr) =>
   T.loads a19 [.slice 35] <| fun (p20 : Option Addr) (l21 : Nat) (l22 : Nat) =>
   T.call Tryd.prog 25 [.slice p12 l13 l14, .slice p20 l21 l22] false [(false, [.bool])] <| fun (b23 : Bool) =>
   T.stable [((a15.add 1), [.slice p16 l17 l18]), (a7, [.slice p8 l9 l10]), ((a5.add 3), [.bool b6])] <|
   T.osome p0 <| fun (a24 : Addr) =>
   T.stores (a24.add 3) [.bool (!b23)] <|
   T.again 1 [])) <| T.osome p0 <| fun (a5 : Addr) =>
 T.loads (a5.add 2) [.int .i64] <| fun (n6 : Int) =>
 T.osome p0 <| fun (a7 : Addr) =>
 T.loads a7 [.slice 23] <| fun (p8 : Option Addr) (l9 : Nat) (l10 : Nat) =>
 T.need (((0 : Int) ≤ (0 : Int)) ∧ ((0 : Int) < (l9 : Int))) <|
 T.osome p8 <| fun (a11 : Addr) =>
 T.loads a11 [.slice 35] <| fun (p12 : Option Addr) (l13 : Nat) (l14 : Nat) =>
 T.osome p0 <| fun (a15 : Addr) =>
 T.stores (a15.add 2) [.int .i64 (IntKind.wrap .i64 ((IntKind.wrap .i64 (n6 - (l14 : Int))) - (1 : Int)))] <|
 T.osome p0 <| fun (a16 : Addr) =>
 T.loads a16 [.slice 23] <| fun (p17 : Option Addr) (l18 : Nat) (l19 : Nat) =>
 T.need (((0 : Int) ≤ (1 : Int)) ∧ (((1 : Int) ≤ (l18 : Int)) ∧ ((l18 : Int) ≤ (l19 : Int)))) <|
 T.osome p0 <| fun (a20 : Addr) =>
 T.stores a20 [.slice (if (l19 = 1) then p17 else (Option.map (fun a => Addr.add a 1) p17)) ((Int.toNat (l18 : Int)) - 1) (l19 - 1)] <|
 T.osome p0 <| fun (a21 : Addr) =>
 T.loads (a21.add 1) [.slice 23] <| fun (p22 : Option Addr) (l23 : Nat) (l24 : Nat) =>
 T.need (((0 : Int) ≤ (1 : Int)) ∧ (((1 : Int) ≤ (l23 : Int)) ∧ ((l23 : Int) ≤ (l24 : Int)))) <|
 T.osome p0 <| fun (a25 : Addr) =>
 T.stores (a25.add 1) [.slice (if (l24 = 1) then p22 else (Option.map (fun a => Addr.add a 1) p22)) ((Int.toNat (l23 : Int)) - 1) (l24 - 1)] <|
 T.again 0 []
theorem t_spandrelbook_Book_lex_Token___Keep_eq (p0 : Option Addr) (pp10 : Option Addr) (ll10 cc10 : Nat) : xfun Tryd.prog [0, 1, 1004, 4] Tryd.f26 [.pointer p0, .slice pp10 ll10 cc10] = t_spandrelbook_Book_lex_Token___Keep p0 pp10 ll10 cc10 := by kernel_rfl

/-- The tree of 27, at some arguments. -/
def t_spandrelbook_Book_lex_Token___Apart_s28 (p0 : Option Addr) : T :=
 T.call Tryd.prog 71 [.pointer p0] false [(false, [.bool])] <| fun (b1 : Bool) =>
 cond (!b1)
  (T.ret (.bool false))
  (T.loop [(false, [.int .i64])] [.int .i64 (0 : Int)] <| fun (n2 : Int) =>
  T.osome p0 <| fun (a3 : Addr) =>
  T.loads a3 [.slice 23] <| fun (p4 : Option Addr) (l5 : Nat) (l6 : Nat) =>
  cond (decide (n2 < (l5 : Int)))
   (T.osome p0 <| fun (a7 : Addr) =>
   T.loads a7 [.slice 23] <| fun (p8 : Option Addr) (l9 : Nat) (l10 : Nat) =>
   T.need (((0 : Int) ≤ n2) ∧ (n2 < (l9 : Int))) <|
   T.osome p8 <| fun (a11 : Addr) =>
   T.loads (a11.add ((Int.toNat n2) * 1)) [.slice 35] <| fun (p12 : Option Addr) (l13 : Nat) (l14 : Nat) =>
   T.osome p0 <| fun (a15 : Addr) =>
   T.loads a15 [.slice 23] <| fun (p16 : Option Addr) (l17 : Nat) (l18 : Nat) =>
   T.need (((0 : Int) ≤ n2) ∧ (n2 < (l17 : Int))) <|
   T.osome p16 <| fun (a19 : Addr) =>
   T.loads (a19.add ((Int.toNat n2) * 1)) [.slice 35] <| fun (p20 : Option Addr) (l21 : Nat) (l22 : Nat) =>
   T.need (((0 : Int) ≤ (0 : Int)) ∧ (((0 : Int) ≤ (l22 : Int)) ∧ ((l22 : Int) ≤ (l14 : Int)))) <|
   T.loop [(false, [.int .i64])] [.int .i64 (0 : Int)] <| fun (n23 : Int) =>
   cond (decide (n23 < (((Int.toNat (l22 : Int)) - 0) : Int)))
    (T.callv Tryd.prog (.func (Fn.func 28) #[] #[]) [.int .i64 n2, .int .i64 n23] false [(true, [.int .i64, .string, .int .u32, .int .i64])] <| fun (n24 : Int) (s25 : ByteArray) (n26 : Int) (n27 : Int) =>
    T.need (((0 : Int) ≤ n23) ∧ (n23 < (((Int.toNat (l22 : Int)) - 0) : Int))) <|
    T.osome (if (l14 = 0) then p12 else (Option.map (fun a => Addr.add a 0) p12)) <| fun (a28 : Addr) =>
    T.stores (a28.add ((Int.toNat n23) * 4)) [.int .i64 n24, .string s25, .int .u32 n26, .int .i64 n27] <|
    T.again 1 [.int .i64 (IntKind.wrap .i64 (n23 + (1 : Int)))])
    (T.again 0 [.int .i64 (IntKind.wrap .i64 (n2 + (1 : Int)))]))
   (T.loop [(false, [.bool]), (false, [.int .i64])] [.bool false, .int .i64 (0 : Int)] <| fun (b7 : Bool) (n8 : Int) =>
   T.osome p0 <| fun (a9 : Addr) =>
   T.loads a9 [.slice 23] <| fun (p10 : Option Addr) (l11 : Nat) (l12 : Nat) =>
   cond (decide (n8 < (l11 : Int)))
    (T.osome p0 <| fun (a13 : Addr) =>
    T.loads a13 [.slice 23] <| fun (p14 : Option Addr) (l15 : Nat) (l16 : Nat) =>
    T.need (((0 : Int) ≤ n8) ∧ (n8 < (l15 : Int))) <|
    T.osome p14 <| fun (a17 : Addr) =>
    T.loads (a17.add ((Int.toNat n8) * 1)) [.slice 35] <| fun (p18 : Option Addr) (l19 : Nat) (l20 : Nat) =>
    T.osome p0 <| fun (a21 : Addr) =>
    T.loads a21 [.slice 23] <| fun (p22 : Option Addr) (l23 : Nat) (l24 : Nat) =>
    T.need (((0 : Int) ≤ n8) ∧ (n8 < (l23 : Int))) <|
    T.osome p22 <| fun (a25 : Addr) =>
    T.loads (a25.add ((Int.toNat n8) * 1)) [.slice 35] <| fun (p26 : Option Addr) (l27 : Nat) (l28 : Nat) =>
    T.need (((0 : Int) ≤ (0 : Int)) ∧ (((0 : Int) ≤ (l28 : Int)) ∧ ((l28 : Int) ≤ (l20 : Int)))) <|
    T.loop [(false, [.bool]), (false, [.int .i64])] [.bool b7, .int .i64 (0 : Int)] <| fun (b29 : Bool) (n30 : Int) =>
    cond (decide (n30 < (((Int.toNat (l28 : Int)) - 0) : Int)))
     (T.need (((0 : Int) ≤ n30) ∧ (n30 < (((Int.toNat (l28 : Int)) - 0) : Int))) <|
     T.osome (if (l20 = 0) then p18 else (Option.map (fun a => Addr.add a 0) p18)) <| fun (a31 : Addr) =>
     T.loads (a31.add ((Int.toNat n30) * 4)) [.int .i64, .string, .int .u32, .int .i64] <| fun (n32 : Int) (s33 : ByteArray) (n34 : Int) (n35 : Int) =>
     T.callv Tryd.prog (.func (Fn.func 28) #[] #[]) [.int .i64 n8, .int .i64 n30] false [(true, [.int .i64, .string, .int .u32, .int .i64])] <| fun (n36 : Int) (s37 : ByteArray) (n38 : Int) (n39 : Int) =>
     T.stable [((a31.add ((Int.toNat n30) * 4)), [.int .i64 n32, .string s33, .int .u32 n34, .int .i64 n35])] <|
     T.sem Tryd.prog (Sx.cmpS (BinOp.neq) 35 (Operand.tmp 86) (Operand.tmp 90) (.agg #[.int .i64 n32, .string s33, .int .u32 n34, .int .i64 n35]) (.agg #[.int .i64 n36, .string s37, .int .u32 n38, .int .i64 n39])) false [(false, [.bool])] <| fun (b40 : Bool) =>
     cond b40
      (T.ret (.bool false))
      (T.again 2 [.bool b29, .int .i64 (IntKind.wrap .i64 (n30 + (1 : Int)))]))
     (T.again 1 [.bool b29, .int .i64 (IntKind.wrap .i64 (n8 + (1 : Int)))]))
    (T.osome p0 <| fun (a13 : Addr) =>
    T.stores a13 [.slice none 0 0] <|
    T.osome p0 <| fun (a14 : Addr) =>
    T.stores (a14.add 1) [.slice none 0 0] <|
    T.osome p0 <| fun (a15 : Addr) =>
    T.stores (a15.add 2) [.int .i64 (0 : Int)] <|
    T.ret (.bool true))))
theorem t_spandrelbook_Book_lex_Token___Apart_s28_eq (p0 : Option Addr) : xfun Tryd.prog [] Tryd.f27 [.pointer p0, .func (Fn.func 28) #[] #[]] = t_spandrelbook_Book_lex_Token___Apart_s28 p0 := by kernel_rfl

/-- The tree of 27, at some arguments. -/
def t_spandrelbook_Book_lex_Token___Apart_s38 (p0 : Option Addr) : T :=
 T.call Tryd.prog 71 [.pointer p0] false [(false, [.bool])] <| fun (b1 : Bool) =>
 cond (!b1)
  (T.ret (.bool false))
  (T.loop [(false, [.int .i64])] [.int .i64 (0 : Int)] <| fun (n2 : Int) =>
  T.osome p0 <| fun (a3 : Addr) =>
  T.loads a3 [.slice 23] <| fun (p4 : Option Addr) (l5 : Nat) (l6 : Nat) =>
  cond (decide (n2 < (l5 : Int)))
   (T.osome p0 <| fun (a7 : Addr) =>
   T.loads a7 [.slice 23] <| fun (p8 : Option Addr) (l9 : Nat) (l10 : Nat) =>
   T.need (((0 : Int) ≤ n2) ∧ (n2 < (l9 : Int))) <|
   T.osome p8 <| fun (a11 : Addr) =>
   T.loads (a11.add ((Int.toNat n2) * 1)) [.slice 35] <| fun (p12 : Option Addr) (l13 : Nat) (l14 : Nat) =>
   T.osome p0 <| fun (a15 : Addr) =>
   T.loads a15 [.slice 23] <| fun (p16 : Option Addr) (l17 : Nat) (l18 : Nat) =>
   T.need (((0 : Int) ≤ n2) ∧ (n2 < (l17 : Int))) <|
   T.osome p16 <| fun (a19 : Addr) =>
   T.loads (a19.add ((Int.toNat n2) * 1)) [.slice 35] <| fun (p20 : Option Addr) (l21 : Nat) (l22 : Nat) =>
   T.need (((0 : Int) ≤ (0 : Int)) ∧ (((0 : Int) ≤ (l22 : Int)) ∧ ((l22 : Int) ≤ (l14 : Int)))) <|
   T.loop [(false, [.int .i64])] [.int .i64 (0 : Int)] <| fun (n23 : Int) =>
   cond (decide (n23 < (((Int.toNat (l22 : Int)) - 0) : Int)))
    (T.callv Tryd.prog (.func (Fn.func 38) #[] #[]) [.int .i64 n2, .int .i64 n23] false [(true, [.int .i64, .string, .int .u32, .int .i64])] <| fun (n24 : Int) (s25 : ByteArray) (n26 : Int) (n27 : Int) =>
    T.need (((0 : Int) ≤ n23) ∧ (n23 < (((Int.toNat (l22 : Int)) - 0) : Int))) <|
    T.osome (if (l14 = 0) then p12 else (Option.map (fun a => Addr.add a 0) p12)) <| fun (a28 : Addr) =>
    T.stores (a28.add ((Int.toNat n23) * 4)) [.int .i64 n24, .string s25, .int .u32 n26, .int .i64 n27] <|
    T.again 1 [.int .i64 (IntKind.wrap .i64 (n23 + (1 : Int)))])
    (T.again 0 [.int .i64 (IntKind.wrap .i64 (n2 + (1 : Int)))]))
   (T.loop [(false, [.bool]), (false, [.int .i64])] [.bool false, .int .i64 (0 : Int)] <| fun (b7 : Bool) (n8 : Int) =>
   T.osome p0 <| fun (a9 : Addr) =>
   T.loads a9 [.slice 23] <| fun (p10 : Option Addr) (l11 : Nat) (l12 : Nat) =>
   cond (decide (n8 < (l11 : Int)))
    (T.osome p0 <| fun (a13 : Addr) =>
    T.loads a13 [.slice 23] <| fun (p14 : Option Addr) (l15 : Nat) (l16 : Nat) =>
    T.need (((0 : Int) ≤ n8) ∧ (n8 < (l15 : Int))) <|
    T.osome p14 <| fun (a17 : Addr) =>
    T.loads (a17.add ((Int.toNat n8) * 1)) [.slice 35] <| fun (p18 : Option Addr) (l19 : Nat) (l20 : Nat) =>
    T.osome p0 <| fun (a21 : Addr) =>
    T.loads a21 [.slice 23] <| fun (p22 : Option Addr) (l23 : Nat) (l24 : Nat) =>
    T.need (((0 : Int) ≤ n8) ∧ (n8 < (l23 : Int))) <|
    T.osome p22 <| fun (a25 : Addr) =>
    T.loads (a25.add ((Int.toNat n8) * 1)) [.slice 35] <| fun (p26 : Option Addr) (l27 : Nat) (l28 : Nat) =>
    T.need (((0 : Int) ≤ (0 : Int)) ∧ (((0 : Int) ≤ (l28 : Int)) ∧ ((l28 : Int) ≤ (l20 : Int)))) <|
    T.loop [(false, [.bool]), (false, [.int .i64])] [.bool b7, .int .i64 (0 : Int)] <| fun (b29 : Bool) (n30 : Int) =>
    cond (decide (n30 < (((Int.toNat (l28 : Int)) - 0) : Int)))
     (T.need (((0 : Int) ≤ n30) ∧ (n30 < (((Int.toNat (l28 : Int)) - 0) : Int))) <|
     T.osome (if (l20 = 0) then p18 else (Option.map (fun a => Addr.add a 0) p18)) <| fun (a31 : Addr) =>
     T.loads (a31.add ((Int.toNat n30) * 4)) [.int .i64, .string, .int .u32, .int .i64] <| fun (n32 : Int) (s33 : ByteArray) (n34 : Int) (n35 : Int) =>
     T.callv Tryd.prog (.func (Fn.func 38) #[] #[]) [.int .i64 n8, .int .i64 n30] false [(true, [.int .i64, .string, .int .u32, .int .i64])] <| fun (n36 : Int) (s37 : ByteArray) (n38 : Int) (n39 : Int) =>
     T.stable [((a31.add ((Int.toNat n30) * 4)), [.int .i64 n32, .string s33, .int .u32 n34, .int .i64 n35])] <|
     T.sem Tryd.prog (Sx.cmpS (BinOp.neq) 35 (Operand.tmp 86) (Operand.tmp 90) (.agg #[.int .i64 n32, .string s33, .int .u32 n34, .int .i64 n35]) (.agg #[.int .i64 n36, .string s37, .int .u32 n38, .int .i64 n39])) false [(false, [.bool])] <| fun (b40 : Bool) =>
     cond b40
      (T.ret (.bool false))
      (T.again 2 [.bool b29, .int .i64 (IntKind.wrap .i64 (n30 + (1 : Int)))]))
     (T.again 1 [.bool b29, .int .i64 (IntKind.wrap .i64 (n8 + (1 : Int)))]))
    (T.osome p0 <| fun (a13 : Addr) =>
    T.stores a13 [.slice none 0 0] <|
    T.osome p0 <| fun (a14 : Addr) =>
    T.stores (a14.add 1) [.slice none 0 0] <|
    T.osome p0 <| fun (a15 : Addr) =>
    T.stores (a15.add 2) [.int .i64 (0 : Int)] <|
    T.ret (.bool true))))
theorem t_spandrelbook_Book_lex_Token___Apart_s38_eq (p0 : Option Addr) : xfun Tryd.prog [] Tryd.f27 [.pointer p0, .func (Fn.func 38) #[] #[]] = t_spandrelbook_Book_lex_Token___Apart_s38 p0 := by kernel_rfl

end Go.Sx
