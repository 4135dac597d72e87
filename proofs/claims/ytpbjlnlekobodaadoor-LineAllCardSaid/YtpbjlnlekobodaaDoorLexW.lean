/- The trees of LexAgain, LexCut, LexKept and of parts of the book, each checked by the kernel against the code. No condition. -/
import Derived.Test.YtpbjlnlekobodaaDoorSxF
import Derived.Test.YtpbjlnlekobodaaDoorProg
import Derived.KernelRfl
set_option linter.unusedVariables false
set_option linter.unusedSimpArgs false
set_option linter.deprecated false
set_option maxRecDepth 100000
namespace Go.Sx
open Go.Proofs
/-- The tree of 4. -/
def t_spandrellaw2_LexAgain (s0 : ByteArray) : T :=
 T.call Tryd.prog 20 [.string s0, .int .i64 (1000 : Int)] false [(false, [.string])] <| fun (s1 : ByteArray) =>
 T.call Tryd.prog 21 [.string s1] true [(false, [.slice 35]), (false, [.int .i64]), (false, [.int .i64])] <| fun (p2 : Option Addr) (l3 : Nat) (l4 : Nat) (n5 : Int) (n6 : Int) =>
 cond (n6 != (0 : Int))
  (cond ((l3 : Int) == (0 : Int))
   (cond (decide (n5 ≥ (0 : Int)))
    (cond (decide (n5 < (s1.size : Int)))
     (T.call Tryd.prog 24 [] false [(false, [.bool])] <| fun (b7 : Bool) =>
     T.ret (.bool b7))
     (T.ret (.bool false)))
    (T.ret (.bool false)))
   (T.ret (.bool false)))
  (T.loop [(false, [.bool]), (false, [.int .i64]), (false, [.string]), (false, [.int .i64])] [.bool false, .int .i64 (0 : Int), .string ⟨#[]⟩, .int .i64 (0 : Int)] <| fun (b7 : Bool) (n8 : Int) (s9 : ByteArray) (n10 : Int) =>
  cond (decide (n10 < (l3 : Int)))
   (T.need (((0 : Int) ≤ n10) ∧ (n10 < (l3 : Int))) <|
   T.osome p2 <| fun (a11 : Addr) =>
   T.loads (a11.add ((Int.toNat n10) * 4)) [.int .i64, .string, .int .u32, .int .i64] <| fun (n12 : Int) (s13 : ByteArray) (n14 : Int) (n15 : Int) =>
   T.new [.int .i64 (0 : Int), .string ⟨#[]⟩, .int .u32 (0 : Int), .int .i64 (0 : Int)] 35 <| fun (a16 : Addr) =>
   T.stores a16 [.int .i64 n12, .string s13, .int .u32 n14, .int .i64 n15] <|
   T.loads (a16.add 3) [.int .i64] <| fun (n17 : Int) =>
   cond (decide (n17 < n8))
    (T.ret (.bool false))
    (T.loads (a16.add 3) [.int .i64] <| fun (n18 : Int) =>
    T.loads (a16.add 1) [.string] <| fun (s19 : ByteArray) =>
    cond (decide ((IntKind.wrap .i64 (n18 + (s19.size : Int))) > (s1.size : Int)))
     (T.ret (.bool false))
     (T.loads (a16.add 1) [.string] <| fun (s20 : ByteArray) =>
     cond ((ByteArray.toList s20) == [])
      (T.ret (.bool false))
      (T.loads (a16.add 3) [.int .i64] <| fun (n21 : Int) =>
      T.loads (a16.add 3) [.int .i64] <| fun (n22 : Int) =>
      T.loads (a16.add 1) [.string] <| fun (s23 : ByteArray) =>
      T.need (((0 : Int) ≤ n21) ∧ ((n21 ≤ (IntKind.wrap .i64 (n22 + (s23.size : Int)))) ∧ ((IntKind.wrap .i64 (n22 + (s23.size : Int))) ≤ (s1.size : Int)))) <|
      T.loads (a16.add 1) [.string] <| fun (s24 : ByteArray) =>
      cond (!((ByteArray.toList (ByteArray.extract s1 (Int.toNat n21) (Int.toNat (IntKind.wrap .i64 (n22 + (s23.size : Int)))))) == (ByteArray.toList s24)))
       (T.ret (.bool false))
       (T.loop [(false, [.bool]), (false, [.int .i64])] [.bool b7, .int .i64 n8] <| fun (b25 : Bool) (n26 : Int) =>
       T.loads (a16.add 3) [.int .i64] <| fun (n27 : Int) =>
       cond (decide (n26 < n27))
        (T.need (((0 : Int) ≤ n26) ∧ (n26 < (s1.size : Int))) <|
        cond ((sbyte s1 n26) != (9 : Int))
         (T.need (((0 : Int) ≤ n26) ∧ (n26 < (s1.size : Int))) <|
         cond ((sbyte s1 n26) != (13 : Int))
          (T.need (((0 : Int) ≤ n26) ∧ (n26 < (s1.size : Int))) <|
          cond ((sbyte s1 n26) != (32 : Int))
           (T.ret (.bool false))
           (T.again 1 [.bool b25, .int .i64 (IntKind.wrap .i64 (n26 + (1 : Int)))]))
          (T.again 1 [.bool b25, .int .i64 (IntKind.wrap .i64 (n26 + (1 : Int)))]))
         (T.again 1 [.bool b25, .int .i64 (IntKind.wrap .i64 (n26 + (1 : Int)))]))
        (T.loads (a16.add 3) [.int .i64] <| fun (n28 : Int) =>
        T.loads (a16.add 1) [.string] <| fun (s29 : ByteArray) =>
        T.loads (a16.add 1) [.string] <| fun (s30 : ByteArray) =>
        T.need (((s9.size + s30.size) : Int) ≤ (9223372036854775807 : Int)) <|
        T.need ((((ByteArray.size (s9 ++ s30)) + 1) : Int) ≤ (9223372036854775807 : Int)) <|
        T.again 0 [.bool b25, .int .i64 (IntKind.wrap .i64 (n28 + (s29.size : Int))), .string ((s9 ++ s30) ++ ⟨#[32]⟩), .int .i64 (IntKind.wrap .i64 (n10 + (1 : Int)))]))))))
   (T.call Tryd.prog 21 [.string s9] true [(false, [.slice 35]), (false, [.int .i64]), (false, [.int .i64])] <| fun (p11 : Option Addr) (l12 : Nat) (l13 : Nat) (n14 : Int) (n15 : Int) =>
   cond (n15 != (0 : Int))
    (T.ret (.bool false))
    (cond ((l12 : Int) != (l3 : Int))
     (T.ret (.bool false))
     (T.loop [(false, [.bool]), (false, [.int .i64])] [.bool b7, .int .i64 (0 : Int)] <| fun (b16 : Bool) (n17 : Int) =>
     cond (decide (n17 < (l3 : Int)))
      (T.need (((0 : Int) ≤ n17) ∧ (n17 < (l12 : Int))) <|
      T.osome p11 <| fun (a18 : Addr) =>
      T.loads (a18.add ((Int.toNat n17) * 4)) [.int .i64] <| fun (n19 : Int) =>
      T.need (((0 : Int) ≤ n17) ∧ (n17 < (l3 : Int))) <|
      T.osome p2 <| fun (a20 : Addr) =>
      T.loads (a20.add ((Int.toNat n17) * 4)) [.int .i64] <| fun (n21 : Int) =>
      cond (n19 != n21)
       (T.ret (.bool false))
       (T.need (((0 : Int) ≤ n17) ∧ (n17 < (l12 : Int))) <|
       T.osome p11 <| fun (a22 : Addr) =>
       T.loads ((a22.add ((Int.toNat n17) * 4)).add 1) [.string] <| fun (s23 : ByteArray) =>
       T.need (((0 : Int) ≤ n17) ∧ (n17 < (l3 : Int))) <|
       T.osome p2 <| fun (a24 : Addr) =>
       T.loads ((a24.add ((Int.toNat n17) * 4)).add 1) [.string] <| fun (s25 : ByteArray) =>
       cond (!((ByteArray.toList s23) == (ByteArray.toList s25)))
        (T.ret (.bool false))
        (T.need (((0 : Int) ≤ n17) ∧ (n17 < (l12 : Int))) <|
        T.osome p11 <| fun (a26 : Addr) =>
        T.loads ((a26.add ((Int.toNat n17) * 4)).add 2) [.int .u32] <| fun (n27 : Int) =>
        T.need (((0 : Int) ≤ n17) ∧ (n17 < (l3 : Int))) <|
        T.osome p2 <| fun (a28 : Addr) =>
        T.loads ((a28.add ((Int.toNat n17) * 4)).add 2) [.int .u32] <| fun (n29 : Int) =>
        cond (n27 != n29)
         (T.ret (.bool false))
         (T.again 1 [.bool b16, .int .i64 (IntKind.wrap .i64 (n17 + (1 : Int)))]))))
      (T.call Tryd.prog 24 [] false [(false, [.bool])] <| fun (b18 : Bool) =>
      T.ret (.bool b18))))))
theorem t_spandrellaw2_LexAgain_eq (s0 : ByteArray) : xfun Tryd.prog [] Tryd.f4 [.string s0] = t_spandrellaw2_LexAgain s0 := by kernel_rfl

/-- The tree of 5. -/
def t_spandrellaw2_LexCut (s0 : ByteArray) (s1 : ByteArray) : T :=
 T.call Tryd.prog 20 [.string s0, .int .i64 (500 : Int)] false [(false, [.string])] <| fun (s2 : ByteArray) =>
 T.call Tryd.prog 21 [.string s2] true [(false, [.slice 35]), (false, [.int .i64]), (false, [.int .i64])] <| fun (p3 : Option Addr) (l4 : Nat) (l5 : Nat) (n6 : Int) (n7 : Int) =>
 cond (n7 != (0 : Int))
  (T.call Tryd.prog 24 [] false [(false, [.bool])] <| fun (b8 : Bool) =>
  T.ret (.bool b8))
  (T.need (((s2.size + 2) : Int) ≤ (9223372036854775807 : Int)) <|
  T.call Tryd.prog 20 [.string s1, .int .i64 (300 : Int)] false [(false, [.string])] <| fun (s8 : ByteArray) =>
  T.need ((((ByteArray.size (s2 ++ ⟨#[32, 59]⟩)) + s8.size) : Int) ≤ (9223372036854775807 : Int)) <|
  T.call Tryd.prog 21 [.string ((s2 ++ ⟨#[32, 59]⟩) ++ s8)] true [(false, [.slice 35]), (false, [.int .i64]), (false, [.int .i64])] <| fun (p9 : Option Addr) (l10 : Nat) (l11 : Nat) (n12 : Int) (n13 : Int) =>
  cond (n13 == (0 : Int))
   (T.call Tryd.prog 25 [.slice p3 l4 l5, .slice p9 l10 l11] false [(false, [.bool])] <| fun (b14 : Bool) =>
   cond b14
    (T.call Tryd.prog 24 [] false [(false, [.bool])] <| fun (b15 : Bool) =>
    T.ret (.bool b15))
    (T.ret (.bool false)))
   (T.ret (.bool false)))
theorem t_spandrellaw2_LexCut_eq (s0 : ByteArray) (s1 : ByteArray) : xfun Tryd.prog [] Tryd.f5 [.string s0, .string s1] = t_spandrellaw2_LexCut s0 s1 := by kernel_rfl

/-- The tree of 6. -/
def t_spandrellaw2_LexKept (s0 : ByteArray) : T :=
 T.call Tryd.prog 20 [.string s0, .int .i64 (500 : Int)] false [(false, [.string])] <| fun (s1 : ByteArray) =>
 T.new [.slice none 0 0, .slice none 0 0, .int .i64 (0 : Int), .bool false] 40 <| fun (a2 : Addr) =>
 T.loop [(false, [.int .i64])] [.int .i64 (0 : Int)] <| fun (n3 : Int) =>
 cond (decide (n3 < (2 : Int)))
  (T.call Tryd.prog 21 [.string s1] true [(false, [.slice 35]), (false, [.int .i64]), (false, [.int .i64])] <| fun (p4 : Option Addr) (l5 : Nat) (l6 : Nat) (n7 : Int) (n8 : Int) =>
  T.call Tryd.prog 26 [.pointer (some a2), .slice p4 l5 l6] true [] <| T.again 0 [.int .i64 (IntKind.wrap .i64 (n3 + (1 : Int)))])
  (T.call Tryd.prog 27 [.pointer (some a2), .func (Fn.func 28) #[] #[]] false [(false, [.bool])] <| fun (b4 : Bool) =>
  cond b4
   (T.call Tryd.prog 24 [] false [(false, [.bool])] <| fun (b5 : Bool) =>
   T.ret (.bool b5))
   (T.ret (.bool false)))
theorem t_spandrellaw2_LexKept_eq (s0 : ByteArray) : xfun Tryd.prog [] Tryd.f6 [.string s0] = t_spandrellaw2_LexKept s0 := by kernel_rfl

/-- The tree of 25. -/
def t_spandrelbook_Same_lex_Token_ (pp00 : Option Addr) (ll00 cc00 : Nat) (pp10 : Option Addr) (ll10 cc10 : Nat) : T :=
 cond ((ll00 : Int) != (ll10 : Int))
  (T.ret (.bool false))
  (T.loop [(false, [.bool]), (false, [.int .i64])] [.bool false, .int .i64 (0 : Int)] <| fun (b2 : Bool) (n3 : Int) =>
  cond (decide (n3 < (ll00 : Int)))
   (T.need (((0 : Int) ≤ n3) ∧ (n3 < (ll00 : Int))) <|
   T.osome pp00 <| fun (a4 : Addr) =>
   T.loads (a4.add ((Int.toNat n3) * 4)) [.int .i64, .string, .int .u32, .int .i64] <| fun (n5 : Int) (s6 : ByteArray) (n7 : Int) (n8 : Int) =>
   T.need (((0 : Int) ≤ n3) ∧ (n3 < (ll10 : Int))) <|
   T.osome pp10 <| fun (a9 : Addr) =>
   T.loads (a9.add ((Int.toNat n3) * 4)) [.int .i64, .string, .int .u32, .int .i64] <| fun (n10 : Int) (s11 : ByteArray) (n12 : Int) (n13 : Int) =>
   T.sem Tryd.prog (Sx.cmpS (BinOp.neq) 35 (Operand.tmp 20) (Operand.tmp 24) (.agg #[.int .i64 n5, .string s6, .int .u32 n7, .int .i64 n8]) (.agg #[.int .i64 n10, .string s11, .int .u32 n12, .int .i64 n13])) false [(false, [.bool])] <| fun (b14 : Bool) =>
   cond b14
    (T.ret (.bool false))
    (T.again 0 [.bool b2, .int .i64 (IntKind.wrap .i64 (n3 + (1 : Int)))]))
   (T.ret (.bool true)))
theorem t_spandrelbook_Same_lex_Token__eq (pp00 : Option Addr) (ll00 cc00 : Nat) (pp10 : Option Addr) (ll10 cc10 : Nat) : xfun Tryd.prog [] Tryd.f25 [.slice pp00 ll00 cc00, .slice pp10 ll10 cc10] = t_spandrelbook_Same_lex_Token_ pp00 ll00 cc00 pp10 ll10 cc10 := by kernel_rfl

/-- The tree of 28. -/
def t_spandrellaw2_mark (n0 : Int) (n1 : Int) : T :=
 T.new [.int .i64 (0 : Int), .string ⟨#[]⟩, .int .u32 (0 : Int), .int .i64 (0 : Int)] 35 <| fun (a2 : Addr) =>
 T.stores a2 [.int .i64 (IntKind.wrap .i64 ((-100 : Int) - n0)), .string ⟨#[]⟩, .int .u32 (0 : Int), .int .i64 (IntKind.wrap .i64 ((0 : Int) - n1))] <|
 T.loads a2 [.int .i64, .string, .int .u32, .int .i64] <| fun (n3 : Int) (s4 : ByteArray) (n5 : Int) (n6 : Int) =>
 T.ret (.agg #[.int .i64 n3, .string s4, .int .u32 n5, .int .i64 n6])
theorem t_spandrellaw2_mark_eq (n0 : Int) (n1 : Int) : xfun Tryd.prog [] Tryd.f28 [.int .i64 n0, .int .i64 n1] = t_spandrellaw2_mark n0 n1 := by kernel_rfl

/-- The tree of 71. -/
def t_spandrelbook_Book_lex_Token___Stays (p0 : Option Addr) : T :=
 T.loop [(false, [.int .i64])] [.int .i64 (0 : Int)] <| fun (n1 : Int) =>
 T.osome p0 <| fun (a2 : Addr) =>
 T.loads a2 [.slice 23] <| fun (p3 : Option Addr) (l4 : Nat) (l5 : Nat) =>
 cond (decide (n1 < (l4 : Int)))
  (T.osome p0 <| fun (a6 : Addr) =>
  T.loads (a6.add 3) [.bool] <| fun (b7 : Bool) =>
  cond b7
   (T.osome p0 <| fun (a8 : Addr) =>
   T.stores (a8.add 3) [.bool true] <|
   T.again 0 [.int .i64 (IntKind.wrap .i64 (n1 + (1 : Int)))])
   (T.osome p0 <| fun (a8 : Addr) =>
   T.loads a8 [.slice 23] <| fun (p9 : Option Addr) (l10 : Nat) (l11 : Nat) =>
   T.need (((0 : Int) ≤ n1) ∧ (n1 < (l10 : Int))) <|
   T.osome p9 <| fun (a12 : Addr) =>
   T.loads (a12.add ((Int.toNat n1) * 1)) [.slice 35] <| fun (p13 : Option Addr) (l14 : Nat) (l15 : Nat) =>
   T.osome p0 <| fun (a16 : Addr) =>
   T.loads (a16.add 1) [.slice 23] <| fun (p17 : Option Addr) (l18 : Nat) (l19 : Nat) =>
   T.need (((0 : Int) ≤ n1) ∧ (n1 < (l18 : Int))) <|
   T.osome p17 <| fun (a20 : Addr) =>
   T.loads (a20.add ((Int.toNat n1) * 1)) [.slice 35] <| fun (p21 : Option Addr) (l22 : Nat) (l23 : Nat) =>
   T.call Tryd.prog 25 [.slice p13 l14 l15, .slice p21 l22 l23] false [(false, [.bool])] <| fun (b24 : Bool) =>
   T.stable [((a16.add 1), [.slice p17 l18 l19]), (a8, [.slice p9 l10 l11]), ((a6.add 3), [.bool b7])] <|
   T.osome p0 <| fun (a25 : Addr) =>
   T.stores (a25.add 3) [.bool (!b24)] <|
   T.again 0 [.int .i64 (IntKind.wrap .i64 (n1 + (1 : Int)))]))
  (T.osome p0 <| fun (a6 : Addr) =>
  T.loads (a6.add 3) [.bool] <| fun (b7 : Bool) =>
  T.ret (.bool (!b7)))
theorem t_spandrelbook_Book_lex_Token___Stays_eq (p0 : Option Addr) : xfun Tryd.prog [] Tryd.f71 [.pointer p0] = t_spandrelbook_Book_lex_Token___Stays p0 := by kernel_rfl

end Go.Sx
