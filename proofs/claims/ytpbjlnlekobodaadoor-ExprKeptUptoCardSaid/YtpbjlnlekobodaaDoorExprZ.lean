/- Trees of functions, each checked by the kernel against the code. No condition. -/
import Derived.Test.YtpbjlnlekobodaaDoorSxF
import Derived.Test.YtpbjlnlekobodaaDoorProg
import Derived.KernelRfl
set_option linter.unusedVariables false
set_option linter.unusedSimpArgs false
set_option linter.deprecated false
set_option maxRecDepth 100000
namespace Go.Sx
open Go.Proofs

/-- The tree of 86. -/
def t_spandrelbook_Same_api_Term_ (pp00 : Option Addr) (ll00 cc00 : Nat) (pp10 : Option Addr) (ll10 cc10 : Nat) : T :=
 cond ((ll00 : Int) != (ll10 : Int))
  (T.ret (.bool false))
  (T.loop [(false, [.bool]), (false, [.int .i64])] [.bool false, .int .i64 (0 : Int)] <| fun (b2 : Bool) (n3 : Int) =>
  cond (decide (n3 < (ll00 : Int)))
   (T.need (((0 : Int) ≤ n3) ∧ (n3 < (ll00 : Int))) <|
   T.osome pp00 <| fun (a4 : Addr) =>
   T.loads (a4.add ((Int.toNat n3) * 2)) [.string, .int .u32] <| fun (s5 : ByteArray) (n6 : Int) =>
   T.need (((0 : Int) ≤ n3) ∧ (n3 < (ll10 : Int))) <|
   T.osome pp10 <| fun (a7 : Addr) =>
   T.loads (a7.add ((Int.toNat n3) * 2)) [.string, .int .u32] <| fun (s8 : ByteArray) (n9 : Int) =>
   T.sem Tryd.prog (Sx.cmpS (BinOp.neq) 80 (Operand.tmp 20) (Operand.tmp 24) (.agg #[.string s5, .int .u32 n6]) (.agg #[.string s8, .int .u32 n9])) false [(false, [.bool])] <| fun (b10 : Bool) =>
   cond b10
    (T.ret (.bool false))
    (T.again 0 [.bool b2, .int .i64 (IntKind.wrap .i64 (n3 + (1 : Int)))]))
   (T.ret (.bool true)))
theorem t_spandrelbook_Same_api_Term__eq (pp00 : Option Addr) (ll00 cc00 : Nat) (pp10 : Option Addr) (ll10 cc10 : Nat) : xfun Tryd.prog [] Tryd.f86 [.slice pp00 ll00 cc00, .slice pp10 ll10 cc10] = t_spandrelbook_Same_api_Term_ pp00 ll00 cc00 pp10 ll10 cc10 := by kernel_rfl

/-- The tree of 87. -/
def t_spandrelbook_Book_api_Term___Stays (p0 : Option Addr) : T :=
 T.loop [(false, [.int .i64])] [.int .i64 (0 : Int)] <| fun (n1 : Int) =>
 T.osome p0 <| fun (a2 : Addr) =>
 T.loads a2 [.slice 67] <| fun (p3 : Option Addr) (l4 : Nat) (l5 : Nat) =>
 cond (decide (n1 < (l4 : Int)))
  (T.osome p0 <| fun (a6 : Addr) =>
  T.loads (a6.add 3) [.bool] <| fun (b7 : Bool) =>
  cond b7
   (T.osome p0 <| fun (a8 : Addr) =>
   T.stores (a8.add 3) [.bool true] <|
   T.again 0 [.int .i64 (IntKind.wrap .i64 (n1 + (1 : Int)))])
   (T.osome p0 <| fun (a8 : Addr) =>
   T.loads a8 [.slice 67] <| fun (p9 : Option Addr) (l10 : Nat) (l11 : Nat) =>
   T.need (((0 : Int) ≤ n1) ∧ (n1 < (l10 : Int))) <|
   T.osome p9 <| fun (a12 : Addr) =>
   T.loads (a12.add ((Int.toNat n1) * 1)) [.slice 80] <| fun (p13 : Option Addr) (l14 : Nat) (l15 : Nat) =>
   T.osome p0 <| fun (a16 : Addr) =>
   T.loads (a16.add 1) [.slice 67] <| fun (p17 : Option Addr) (l18 : Nat) (l19 : Nat) =>
   T.need (((0 : Int) ≤ n1) ∧ (n1 < (l18 : Int))) <|
   T.osome p17 <| fun (a20 : Addr) =>
   T.loads (a20.add ((Int.toNat n1) * 1)) [.slice 80] <| fun (p21 : Option Addr) (l22 : Nat) (l23 : Nat) =>
   T.call Tryd.prog 86 [.slice p13 l14 l15, .slice p21 l22 l23] false [(false, [.bool])] <| fun (b24 : Bool) =>
   T.stable [((a16.add 1), [.slice p17 l18 l19]), (a8, [.slice p9 l10 l11]), ((a6.add 3), [.bool b7])] <|
   T.osome p0 <| fun (a25 : Addr) =>
   T.stores (a25.add 3) [.bool (!b24)] <|
   T.again 0 [.int .i64 (IntKind.wrap .i64 (n1 + (1 : Int)))]))
  (T.osome p0 <| fun (a6 : Addr) =>
  T.loads (a6.add 3) [.bool] <| fun (b7 : Bool) =>
  T.ret (.bool (!b7)))
theorem t_spandrelbook_Book_api_Term___Stays_eq (p0 : Option Addr) : xfun Tryd.prog [] Tryd.f87 [.pointer p0] = t_spandrelbook_Book_api_Term___Stays p0 := by kernel_rfl

/-- The tree of 58. -/
def t_spandrellaw4_mark (n0 : Int) (n1 : Int) : T :=
 T.new [.string ⟨#[]⟩, .int .u32 (0 : Int)] 80 <| fun (a2 : Addr) =>
 T.need ((0 : Int) ≤ (16 : Int)) <|
 T.stores a2 [.string ⟨#[109, 97, 114, 107]⟩, .int .u32 (IntKind.wrap .u32 ((IntKind.wrap .u32 ((IntKind.wrap .u32 n0) * (65536 : Int))) + (IntKind.wrap .u32 n1)))] <|
 T.loads a2 [.string, .int .u32] <| fun (s3 : ByteArray) (n4 : Int) =>
 T.ret (.agg #[.string s3, .int .u32 n4])
theorem t_spandrellaw4_mark_eq (n0 : Int) (n1 : Int) : xfun Tryd.prog [] Tryd.f58 [.int .i64 n0, .int .i64 n1] = t_spandrellaw4_mark n0 n1 := by kernel_rfl

/-- The tree of 55. -/
def t_spandrelbook_Book_api_Term___Keep (p0 : Option Addr) (pp10 : Option Addr) (ll10 cc10 : Nat) : T :=
 T.join []
  (T.osome p0 <| fun (a2 : Addr) =>
  T.loads a2 [.slice 67] <| fun (p3 : Option Addr) (l4 : Nat) (l5 : Nat) =>
  T.sem Tryd.prog (Instr.buildSlice 87 1 #[(0, .slice pp10 ll10 cc10)]) false [(false, [.slice 0])] <| fun (p6 : Option Addr) (l7 : Nat) (l8 : Nat) =>
  T.sem Tryd.prog (Builtin.append_ #[87, 87] 87 #[.slice p3 l4 l5, .slice p6 l7 l8]) false [(false, [.slice 0])] <| fun (p9 : Option Addr) (l10 : Nat) (l11 : Nat) =>
  T.osome p0 <| fun (a12 : Addr) =>
  T.stores a12 [.slice p9 l10 l11] <|
  T.again 0 []) <| T.join []
  (T.osome p0 <| fun (a2 : Addr) =>
  T.loads (a2.add 1) [.slice 67] <| fun (p3 : Option Addr) (l4 : Nat) (l5 : Nat) =>
  T.sem Tryd.prog (Builtin.append_ #[67, 67] 67 #[.slice none 0 0, .slice pp10 ll10 cc10]) false [(false, [.slice 0])] <| fun (p6 : Option Addr) (l7 : Nat) (l8 : Nat) =>
  T.stable [((a2.add 1), [.slice p3 l4 l5])] <|
  T.sem Tryd.prog (Instr.buildSlice 87 1 #[(0, .slice p6 l7 l8)]) false [(false, [.slice 0])] <| fun (p9 : Option Addr) (l10 : Nat) (l11 : Nat) =>
  T.stable [((a2.add 1), [.slice p3 l4 l5])] <|
  T.sem Tryd.prog (Builtin.append_ #[87, 87] 87 #[.slice p3 l4 l5, .slice p9 l10 l11]) false [(false, [.slice 0])] <| fun (p12 : Option Addr) (l13 : Nat) (l14 : Nat) =>
  T.osome p0 <| fun (a15 : Addr) =>
  T.stores (a15.add 1) [.slice p12 l13 l14] <|
  T.again 0 []) <| T.osome p0 <| fun (a2 : Addr) =>
 T.loads (a2.add 2) [.int .i64] <| fun (n3 : Int) =>
 T.osome p0 <| fun (a4 : Addr) =>
 T.stores (a4.add 2) [.int .i64 (IntKind.wrap .i64 ((IntKind.wrap .i64 (n3 + (cc10 : Int))) + (1 : Int)))] <|
 T.loop [] [] <| T.join []
  (T.osome p0 <| fun (a5 : Addr) =>
  T.loads a5 [.slice 67] <| fun (p6 : Option Addr) (l7 : Nat) (l8 : Nat) =>
  cond (decide ((l7 : Int) > (1 : Int)))
   (T.osome p0 <| fun (a9 : Addr) =>
   T.loads (a9.add 2) [.int .i64] <| fun (n10 : Int) =>
   cond (decide (n10 > (1000000 : Int)))
    (T.again 1 [])
    (T.osome p0 <| fun (a11 : Addr) =>
    T.loads a11 [.slice 67] <| fun (p12 : Option Addr) (l13 : Nat) (l14 : Nat) =>
    cond (decide ((l13 : Int) > (4000 : Int)))
     (T.again 1 [])
     (T.ret (.tuple #[]))))
   (T.ret (.tuple #[]))) <| T.join []
  (T.osome p0 <| fun (a5 : Addr) =>
  T.loads (a5.add 3) [.bool] <| fun (b6 : Bool) =>
  cond b6
   (T.osome p0 <| fun (a7 : Addr) =>
   T.stores (a7.add 3) [.bool true] <|
   T.again 1 [])
   (T.osome p0 <| fun (a7 : Addr) =>
   T.loads a7 [.slice 67] <| fun (p8 : Option Addr) (l9 : Nat) (l10 : Nat) =>
   T.need (((0 : Int) ≤ (0 : Int)) ∧ ((0 : Int) < (l9 : Int))) <|
   T.osome p8 <| fun (a11 : Addr) =>
   T.loads a11 [.slice 80] <| fun (p12 : Option Addr) (l13 : Nat) (l14 : Nat) =>
   T.osome p0 <| fun (a15 : Addr) =>
   T.loads (a15.add 1) [.slice 67] <| fun (p16 : Option Addr) (l17 : Nat) (l18 : Nat) =>
   T.need (((0 : Int) ≤ (0 : Int)) ∧ ((0 : Int) < (l17 : Int))) <|
   T.osome p16 <| fun (a19 : Addr) =>
   T.loads a19 [.slice 80] <| fun (p20 : Option Addr) (l21 : Nat) (l22 : Nat) =>
   T.call Tryd.prog 86 [.slice p12 l13 l14, .slice p20 l21 l22] false [(false, [.bool])] <| fun (b23 : Bool) =>
   T.stable [((a15.add 1), [.slice p16 l17 l18]), (a7, [.slice p8 l9 l10]), ((a5.add 3), [.bool b6])] <|
   T.osome p0 <| fun (a24 : Addr) =>
   T.stores (a24.add 3) [.bool (!b23)] <|
   T.again 1 [])) <| T.osome p0 <| fun (a5 : Addr) =>
 T.loads (a5.add 2) [.int .i64] <| fun (n6 : Int) =>
 T.osome p0 <| fun (a7 : Addr) =>
 T.loads a7 [.slice 67] <| fun (p8 : Option Addr) (l9 : Nat) (l10 : Nat) =>
 T.need (((0 : Int) ≤ (0 : Int)) ∧ ((0 : Int) < (l9 : Int))) <|
 T.osome p8 <| fun (a11 : Addr) =>
 T.loads a11 [.slice 80] <| fun (p12 : Option Addr) (l13 : Nat) (l14 : Nat) =>
 T.osome p0 <| fun (a15 : Addr) =>
 T.stores (a15.add 2) [.int .i64 (IntKind.wrap .i64 ((IntKind.wrap .i64 (n6 - (l14 : Int))) - (1 : Int)))] <|
 T.osome p0 <| fun (a16 : Addr) =>
 T.loads a16 [.slice 67] <| fun (p17 : Option Addr) (l18 : Nat) (l19 : Nat) =>
 T.need (((0 : Int) ≤ (1 : Int)) ∧ (((1 : Int) ≤ (l18 : Int)) ∧ ((l18 : Int) ≤ (l19 : Int)))) <|
 T.osome p0 <| fun (a20 : Addr) =>
 T.stores a20 [.slice (if (l19 = 1) then p17 else (Option.map (fun a => Addr.add a 1) p17)) ((Int.toNat (l18 : Int)) - 1) (l19 - 1)] <|
 T.osome p0 <| fun (a21 : Addr) =>
 T.loads (a21.add 1) [.slice 67] <| fun (p22 : Option Addr) (l23 : Nat) (l24 : Nat) =>
 T.need (((0 : Int) ≤ (1 : Int)) ∧ (((1 : Int) ≤ (l23 : Int)) ∧ ((l23 : Int) ≤ (l24 : Int)))) <|
 T.osome p0 <| fun (a25 : Addr) =>
 T.stores (a25.add 1) [.slice (if (l24 = 1) then p22 else (Option.map (fun a => Addr.add a 1) p22)) ((Int.toNat (l23 : Int)) - 1) (l24 - 1)] <|
 T.again 0 []
theorem t_spandrelbook_Book_api_Term___Keep_eq (p0 : Option Addr) (pp10 : Option Addr) (ll10 cc10 : Nat) : xfun Tryd.prog [0, 1, 1004, 4] Tryd.f55 [.pointer p0, .slice pp10 ll10 cc10] = t_spandrelbook_Book_api_Term___Keep p0 pp10 ll10 cc10 := by kernel_rfl

/-- The tree of 57, at some arguments. -/
def t_spandrelbook_Book_api_Term___Apart_s58 (p0 : Option Addr) : T :=
 T.call Tryd.prog 87 [.pointer p0] false [(false, [.bool])] <| fun (b1 : Bool) =>
 cond (!b1)
  (T.ret (.bool false))
  (T.loop [(false, [.int .i64])] [.int .i64 (0 : Int)] <| fun (n2 : Int) =>
  T.osome p0 <| fun (a3 : Addr) =>
  T.loads a3 [.slice 67] <| fun (p4 : Option Addr) (l5 : Nat) (l6 : Nat) =>
  cond (decide (n2 < (l5 : Int)))
   (T.osome p0 <| fun (a7 : Addr) =>
   T.loads a7 [.slice 67] <| fun (p8 : Option Addr) (l9 : Nat) (l10 : Nat) =>
   T.need (((0 : Int) ≤ n2) ∧ (n2 < (l9 : Int))) <|
   T.osome p8 <| fun (a11 : Addr) =>
   T.loads (a11.add ((Int.toNat n2) * 1)) [.slice 80] <| fun (p12 : Option Addr) (l13 : Nat) (l14 : Nat) =>
   T.osome p0 <| fun (a15 : Addr) =>
   T.loads a15 [.slice 67] <| fun (p16 : Option Addr) (l17 : Nat) (l18 : Nat) =>
   T.need (((0 : Int) ≤ n2) ∧ (n2 < (l17 : Int))) <|
   T.osome p16 <| fun (a19 : Addr) =>
   T.loads (a19.add ((Int.toNat n2) * 1)) [.slice 80] <| fun (p20 : Option Addr) (l21 : Nat) (l22 : Nat) =>
   T.need (((0 : Int) ≤ (0 : Int)) ∧ (((0 : Int) ≤ (l22 : Int)) ∧ ((l22 : Int) ≤ (l14 : Int)))) <|
   T.loop [(false, [.int .i64])] [.int .i64 (0 : Int)] <| fun (n23 : Int) =>
   cond (decide (n23 < (((Int.toNat (l22 : Int)) - 0) : Int)))
    (T.callv Tryd.prog (.func (Fn.func 58) #[] #[]) [.int .i64 n2, .int .i64 n23] false [(true, [.string, .int .u32])] <| fun (s24 : ByteArray) (n25 : Int) =>
    T.need (((0 : Int) ≤ n23) ∧ (n23 < (((Int.toNat (l22 : Int)) - 0) : Int))) <|
    T.osome (if (l14 = 0) then p12 else (Option.map (fun a => Addr.add a 0) p12)) <| fun (a26 : Addr) =>
    T.stores (a26.add ((Int.toNat n23) * 2)) [.string s24, .int .u32 n25] <|
    T.again 1 [.int .i64 (IntKind.wrap .i64 (n23 + (1 : Int)))])
    (T.again 0 [.int .i64 (IntKind.wrap .i64 (n2 + (1 : Int)))]))
   (T.loop [(false, [.bool]), (false, [.int .i64])] [.bool false, .int .i64 (0 : Int)] <| fun (b7 : Bool) (n8 : Int) =>
   T.osome p0 <| fun (a9 : Addr) =>
   T.loads a9 [.slice 67] <| fun (p10 : Option Addr) (l11 : Nat) (l12 : Nat) =>
   cond (decide (n8 < (l11 : Int)))
    (T.osome p0 <| fun (a13 : Addr) =>
    T.loads a13 [.slice 67] <| fun (p14 : Option Addr) (l15 : Nat) (l16 : Nat) =>
    T.need (((0 : Int) ≤ n8) ∧ (n8 < (l15 : Int))) <|
    T.osome p14 <| fun (a17 : Addr) =>
    T.loads (a17.add ((Int.toNat n8) * 1)) [.slice 80] <| fun (p18 : Option Addr) (l19 : Nat) (l20 : Nat) =>
    T.osome p0 <| fun (a21 : Addr) =>
    T.loads a21 [.slice 67] <| fun (p22 : Option Addr) (l23 : Nat) (l24 : Nat) =>
    T.need (((0 : Int) ≤ n8) ∧ (n8 < (l23 : Int))) <|
    T.osome p22 <| fun (a25 : Addr) =>
    T.loads (a25.add ((Int.toNat n8) * 1)) [.slice 80] <| fun (p26 : Option Addr) (l27 : Nat) (l28 : Nat) =>
    T.need (((0 : Int) ≤ (0 : Int)) ∧ (((0 : Int) ≤ (l28 : Int)) ∧ ((l28 : Int) ≤ (l20 : Int)))) <|
    T.loop [(false, [.bool]), (false, [.int .i64])] [.bool b7, .int .i64 (0 : Int)] <| fun (b29 : Bool) (n30 : Int) =>
    cond (decide (n30 < (((Int.toNat (l28 : Int)) - 0) : Int)))
     (T.need (((0 : Int) ≤ n30) ∧ (n30 < (((Int.toNat (l28 : Int)) - 0) : Int))) <|
     T.osome (if (l20 = 0) then p18 else (Option.map (fun a => Addr.add a 0) p18)) <| fun (a31 : Addr) =>
     T.loads (a31.add ((Int.toNat n30) * 2)) [.string, .int .u32] <| fun (s32 : ByteArray) (n33 : Int) =>
     T.callv Tryd.prog (.func (Fn.func 58) #[] #[]) [.int .i64 n8, .int .i64 n30] false [(true, [.string, .int .u32])] <| fun (s34 : ByteArray) (n35 : Int) =>
     T.stable [((a31.add ((Int.toNat n30) * 2)), [.string s32, .int .u32 n33])] <|
     T.sem Tryd.prog (Sx.cmpS (BinOp.neq) 80 (Operand.tmp 86) (Operand.tmp 90) (.agg #[.string s32, .int .u32 n33]) (.agg #[.string s34, .int .u32 n35])) false [(false, [.bool])] <| fun (b36 : Bool) =>
     cond b36
      (T.ret (.bool false))
      (T.again 2 [.bool b29, .int .i64 (IntKind.wrap .i64 (n30 + (1 : Int)))]))
     (T.again 1 [.bool b29, .int .i64 (IntKind.wrap .i64 (n8 + (1 : Int)))]))
    (T.osome p0 <| fun (a13 : Addr) =>
    T.stores a13 [.slice none 0 0] <|
    T.osome p0 <| fun (a14 : Addr) =>
    T.stores (a14.add 1) [.slice none 0 0] <|
    T.osome p0 <| fun (a15 : Addr) =>
    T.stores (a15.add 2) [.int .i64 (0 : Int)] <|
    T.ret (.bool true))))
theorem t_spandrelbook_Book_api_Term___Apart_s58_eq (p0 : Option Addr) : xfun Tryd.prog [] Tryd.f57 [.pointer p0, .func (Fn.func 58) #[] #[]] = t_spandrelbook_Book_api_Term___Apart_s58 p0 := by kernel_rfl

end Go.Sx
