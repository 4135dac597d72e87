/- The trees of the laws of the third layer, each checked by the kernel against the code. No condition. -/
import Derived.Test.YtpbjlnlekobodaaDoorSxF
import Derived.Test.YtpbjlnlekobodaaDoorProg
import Derived.KernelRfl
set_option linter.unusedVariables false
set_option linter.unusedSimpArgs false
set_option linter.deprecated false
set_option maxRecDepth 100000
namespace Go.Sx
open Go.Proofs
/-- The tree of 33. -/
def t_spandrellaw3_few (s0 : ByteArray) (n1 : Int) : T :=
 cond (decide ((s0.size : Int) > n1))
  (T.need (((0 : Int) ≤ (0 : Int)) ∧ (((0 : Int) ≤ n1) ∧ (n1 ≤ (s0.size : Int)))) <|
  T.ret (.string (ByteArray.extract s0 0 (Int.toNat n1))))
  (T.ret (.string s0))
theorem t_spandrellaw3_few_eq (s0 : ByteArray) (n1 : Int) : xfun Tryd.prog [] Tryd.f33 [.string s0, .int .i64 n1] = t_spandrellaw3_few s0 n1 := by kernel_rfl

/-- The tree of 9. -/
def t_spandrellaw3_LineParses (s0 : ByteArray) : T :=
 T.call Tryd.prog 33 [.string s0, .int .i64 (1000 : Int)] false [(false, [.string])] <| fun (s1 : ByteArray) =>
 T.call Tryd.prog 34 [.string s1] true [(true, [.string, .string, .slice 23]), (false, [.int .i64]), (false, [.int .i64])] <| fun (s2 : ByteArray) (s3 : ByteArray) (p4 : Option Addr) (l5 : Nat) (l6 : Nat) (n7 : Int) (n8 : Int) =>
 T.new [.string ⟨#[]⟩, .string ⟨#[]⟩, .slice none 0 0] 48 <| fun (a9 : Addr) =>
 T.stores a9 [.string s2, .string s3, .slice p4 l5 l6] <|
 T.call Tryd.prog 35 [.string s1] true [(true, [.string, .string, .slice 27]), (false, [.int .i64]), (false, [.int .i64])] <| fun (s10 : ByteArray) (s11 : ByteArray) (p12 : Option Addr) (l13 : Nat) (l14 : Nat) (n15 : Int) (n16 : Int) =>
 T.new [.string ⟨#[]⟩, .string ⟨#[]⟩, .slice none 0 0] 53 <| fun (a17 : Addr) =>
 T.stores a17 [.string s10, .string s11, .slice p12 l13 l14] <|
 T.loads a9 [.string, .string, .slice 23] <| fun (s18 : ByteArray) (s19 : ByteArray) (p20 : Option Addr) (l21 : Nat) (l22 : Nat) =>
 T.loads a17 [.string, .string, .slice 27] <| fun (s23 : ByteArray) (s24 : ByteArray) (p25 : Option Addr) (l26 : Nat) (l27 : Nat) =>
 T.call Tryd.prog 36 [.agg #[.string s18, .string s19, .slice p20 l21 l22], .agg #[.string s23, .string s24, .slice p25 l26 l27]] false [(false, [.bool])] <| fun (b28 : Bool) =>
 cond b28
  (cond (n7 == n15)
   (cond (n8 == n16)
    (T.call Tryd.prog 37 [] false [(false, [.bool])] <| fun (b29 : Bool) =>
    T.ret (.bool b29))
    (T.ret (.bool false)))
   (T.ret (.bool false)))
  (T.ret (.bool false))
theorem t_spandrellaw3_LineParses_eq (s0 : ByteArray) : xfun Tryd.prog [] Tryd.f9 [.string s0] = t_spandrellaw3_LineParses s0 := by kernel_rfl

/-- The tree of 10. -/
def t_spandrellaw3_LineSpaced (s0 : ByteArray) (s1 : ByteArray) : T :=
 T.call Tryd.prog 33 [.string s0, .int .i64 (500 : Int)] false [(false, [.string])] <| fun (s2 : ByteArray) =>
 T.call Tryd.prog 34 [.string s2] true [(true, [.string, .string, .slice 23]), (false, [.int .i64]), (false, [.int .i64])] <| fun (s3 : ByteArray) (s4 : ByteArray) (p5 : Option Addr) (l6 : Nat) (l7 : Nat) (n8 : Int) (n9 : Int) =>
 T.new [.string ⟨#[]⟩, .string ⟨#[]⟩, .slice none 0 0] 48 <| fun (a10 : Addr) =>
 T.stores a10 [.string s3, .string s4, .slice p5 l6 l7] <|
 T.need (((3 + s2.size) : Int) ≤ (9223372036854775807 : Int)) <|
 T.need ((((ByteArray.size (⟨#[9, 32, 32]⟩ ++ s2)) + 2) : Int) ≤ (9223372036854775807 : Int)) <|
 T.call Tryd.prog 33 [.string s1, .int .i64 (100 : Int)] false [(false, [.string])] <| fun (s11 : ByteArray) =>
 T.need ((((ByteArray.size ((⟨#[9, 32, 32]⟩ ++ s2) ++ ⟨#[32, 59]⟩)) + s11.size) : Int) ≤ (9223372036854775807 : Int)) <|
 T.call Tryd.prog 34 [.string (((⟨#[9, 32, 32]⟩ ++ s2) ++ ⟨#[32, 59]⟩) ++ s11)] true [(true, [.string, .string, .slice 23]), (false, [.int .i64]), (false, [.int .i64])] <| fun (s12 : ByteArray) (s13 : ByteArray) (p14 : Option Addr) (l15 : Nat) (l16 : Nat) (n17 : Int) (n18 : Int) =>
 T.new [.string ⟨#[]⟩, .string ⟨#[]⟩, .slice none 0 0] 48 <| fun (a19 : Addr) =>
 T.stores a19 [.string s12, .string s13, .slice p14 l15 l16] <|
 cond (n9 != n18)
  (T.ret (.bool false))
  (cond (n9 != (0 : Int))
   (cond (n17 == (IntKind.wrap .i64 (n8 + (3 : Int))))
    (T.call Tryd.prog 37 [] false [(false, [.bool])] <| fun (b20 : Bool) =>
    T.ret (.bool b20))
    (cond (n8 == (s2.size : Int))
     (cond (decide (n17 > n8))
      (T.call Tryd.prog 37 [] false [(false, [.bool])] <| fun (b20 : Bool) =>
      T.ret (.bool b20))
      (T.ret (.bool false)))
     (T.ret (.bool false))))
   (T.loads a10 [.string] <| fun (s20 : ByteArray) =>
   T.loads a19 [.string] <| fun (s21 : ByteArray) =>
   cond (!((ByteArray.toList s20) == (ByteArray.toList s21)))
    (T.ret (.bool false))
    (T.loads (a10.add 1) [.string] <| fun (s22 : ByteArray) =>
    T.loads (a19.add 1) [.string] <| fun (s23 : ByteArray) =>
    cond (!((ByteArray.toList s22) == (ByteArray.toList s23)))
     (T.ret (.bool false))
     (T.loads (a10.add 2) [.slice 23] <| fun (p24 : Option Addr) (l25 : Nat) (l26 : Nat) =>
     T.loads (a19.add 2) [.slice 23] <| fun (p27 : Option Addr) (l28 : Nat) (l29 : Nat) =>
     cond ((l25 : Int) != (l28 : Int))
      (T.ret (.bool false))
      (T.loop [(false, [.bool]), (false, [.int .i64])] [.bool false, .int .i64 (0 : Int)] <| fun (b30 : Bool) (n31 : Int) =>
      T.loads (a10.add 2) [.slice 23] <| fun (p32 : Option Addr) (l33 : Nat) (l34 : Nat) =>
      cond (decide (n31 < (l33 : Int)))
       (T.loads (a10.add 2) [.slice 23] <| fun (p35 : Option Addr) (l36 : Nat) (l37 : Nat) =>
       T.need (((0 : Int) ≤ n31) ∧ (n31 < (l36 : Int))) <|
       T.osome p35 <| fun (a38 : Addr) =>
       T.loads (a38.add ((Int.toNat n31) * 1)) [.slice 35] <| fun (p39 : Option Addr) (l40 : Nat) (l41 : Nat) =>
       T.loads (a19.add 2) [.slice 23] <| fun (p42 : Option Addr) (l43 : Nat) (l44 : Nat) =>
       T.need (((0 : Int) ≤ n31) ∧ (n31 < (l43 : Int))) <|
       T.osome p42 <| fun (a45 : Addr) =>
       T.loads (a45.add ((Int.toNat n31) * 1)) [.slice 35] <| fun (p46 : Option Addr) (l47 : Nat) (l48 : Nat) =>
       cond ((l40 : Int) != (l47 : Int))
        (T.ret (.bool false))
        (T.loads (a10.add 2) [.slice 23] <| fun (p49 : Option Addr) (l50 : Nat) (l51 : Nat) =>
        T.need (((0 : Int) ≤ n31) ∧ (n31 < (l50 : Int))) <|
        T.osome p49 <| fun (a52 : Addr) =>
        T.loads (a52.add ((Int.toNat n31) * 1)) [.slice 35] <| fun (p53 : Option Addr) (l54 : Nat) (l55 : Nat) =>
        cond ((l54 : Int) == (0 : Int))
         (T.ret (.bool false))
         (T.loop [(false, [.bool]), (false, [.int .i64])] [.bool b30, .int .i64 (0 : Int)] <| fun (b56 : Bool) (n57 : Int) =>
         T.loads (a10.add 2) [.slice 23] <| fun (p58 : Option Addr) (l59 : Nat) (l60 : Nat) =>
         T.need (((0 : Int) ≤ n31) ∧ (n31 < (l59 : Int))) <|
         T.osome p58 <| fun (a61 : Addr) =>
         T.loads (a61.add ((Int.toNat n31) * 1)) [.slice 35] <| fun (p62 : Option Addr) (l63 : Nat) (l64 : Nat) =>
         cond (decide (n57 < (l63 : Int)))
          (T.loads (a19.add 2) [.slice 23] <| fun (p65 : Option Addr) (l66 : Nat) (l67 : Nat) =>
          T.need (((0 : Int) ≤ n31) ∧ (n31 < (l66 : Int))) <|
          T.osome p65 <| fun (a68 : Addr) =>
          T.loads (a68.add ((Int.toNat n31) * 1)) [.slice 35] <| fun (p69 : Option Addr) (l70 : Nat) (l71 : Nat) =>
          T.need (((0 : Int) ≤ n57) ∧ (n57 < (l70 : Int))) <|
          T.osome p69 <| fun (a72 : Addr) =>
          T.loads (a72.add ((Int.toNat n57) * 4)) [.int .i64, .string, .int .u32, .int .i64] <| fun (n73 : Int) (s74 : ByteArray) (n75 : Int) (n76 : Int) =>
          T.new [.int .i64 (0 : Int), .string ⟨#[]⟩, .int .u32 (0 : Int), .int .i64 (0 : Int)] 35 <| fun (a77 : Addr) =>
          T.stores a77 [.int .i64 n73, .string s74, .int .u32 n75, .int .i64 n76] <|
          T.loads (a77.add 3) [.int .i64] <| fun (n78 : Int) =>
          T.stores (a77.add 3) [.int .i64 (IntKind.wrap .i64 (n78 - (3 : Int)))] <|
          T.loads a77 [.int .i64, .string, .int .u32, .int .i64] <| fun (n79 : Int) (s80 : ByteArray) (n81 : Int) (n82 : Int) =>
          T.loads (a10.add 2) [.slice 23] <| fun (p83 : Option Addr) (l84 : Nat) (l85 : Nat) =>
          T.need (((0 : Int) ≤ n31) ∧ (n31 < (l84 : Int))) <|
          T.osome p83 <| fun (a86 : Addr) =>
          T.loads (a86.add ((Int.toNat n31) * 1)) [.slice 35] <| fun (p87 : Option Addr) (l88 : Nat) (l89 : Nat) =>
          T.need (((0 : Int) ≤ n57) ∧ (n57 < (l88 : Int))) <|
          T.osome p87 <| fun (a90 : Addr) =>
          T.loads (a90.add ((Int.toNat n57) * 4)) [.int .i64, .string, .int .u32, .int .i64] <| fun (n91 : Int) (s92 : ByteArray) (n93 : Int) (n94 : Int) =>
          T.sem Tryd.prog (Sx.cmpS (BinOp.neq) 35 (Operand.tmp 128) (Operand.tmp 136) (.agg #[.int .i64 n79, .string s80, .int .u32 n81, .int .i64 n82]) (.agg #[.int .i64 n91, .string s92, .int .u32 n93, .int .i64 n94])) false [(false, [.bool])] <| fun (b95 : Bool) =>
          T.stable [((a86.add ((Int.toNat n31) * 1)), [.slice p87 l88 l89]), ((a10.add 2), [.slice p83 l84 l85])] <|
          cond b95
           (T.ret (.bool false))
           (T.again 1 [.bool b56, .int .i64 (IntKind.wrap .i64 (n57 + (1 : Int)))]))
          (T.again 0 [.bool b56, .int .i64 (IntKind.wrap .i64 (n31 + (1 : Int)))]))))
       (T.call Tryd.prog 37 [] false [(false, [.bool])] <| fun (b35 : Bool) =>
       T.ret (.bool b35)))))))
theorem t_spandrellaw3_LineSpaced_eq (s0 : ByteArray) (s1 : ByteArray) : xfun Tryd.prog [] Tryd.f10 [.string s0, .string s1] = t_spandrellaw3_LineSpaced s0 s1 := by kernel_rfl

/-- The tree of 11. -/
def t_spandrellaw3_LineKept (s0 : ByteArray) : T :=
 T.call Tryd.prog 33 [.string s0, .int .i64 (500 : Int)] false [(false, [.string])] <| fun (s1 : ByteArray) =>
 T.new [.slice none 0 0, .slice none 0 0, .int .i64 (0 : Int), .bool false] 40 <| fun (a2 : Addr) =>
 T.loop [(false, [.int .i64])] [.int .i64 (0 : Int)] <| fun (n3 : Int) =>
 cond (decide (n3 < (2 : Int)))
  (T.call Tryd.prog 34 [.string s1] true [(true, [.string, .string, .slice 23]), (false, [.int .i64]), (false, [.int .i64])] <| fun (s4 : ByteArray) (s5 : ByteArray) (p6 : Option Addr) (l7 : Nat) (l8 : Nat) (n9 : Int) (n10 : Int) =>
  T.new [.string ⟨#[]⟩, .string ⟨#[]⟩, .slice none 0 0] 48 <| fun (a11 : Addr) =>
  T.stores a11 [.string s4, .string s5, .slice p6 l7 l8] <|
  T.loop [(false, [.int .i64])] [.int .i64 (0 : Int)] <| fun (n12 : Int) =>
  T.loads (a11.add 2) [.slice 23] <| fun (p13 : Option Addr) (l14 : Nat) (l15 : Nat) =>
  cond (decide (n12 < (l14 : Int)))
   (T.loads (a11.add 2) [.slice 23] <| fun (p16 : Option Addr) (l17 : Nat) (l18 : Nat) =>
   T.need (((0 : Int) ≤ n12) ∧ (n12 < (l17 : Int))) <|
   T.osome p16 <| fun (a19 : Addr) =>
   T.loads (a19.add ((Int.toNat n12) * 1)) [.slice 35] <| fun (p20 : Option Addr) (l21 : Nat) (l22 : Nat) =>
   T.call Tryd.prog 26 [.pointer (some a2), .slice p20 l21 l22] true [] <| T.again 1 [.int .i64 (IntKind.wrap .i64 (n12 + (1 : Int)))])
   (T.again 0 [.int .i64 (IntKind.wrap .i64 (n3 + (1 : Int)))]))
  (T.call Tryd.prog 27 [.pointer (some a2), .func (Fn.func 38) #[] #[]] false [(false, [.bool])] <| fun (b4 : Bool) =>
  cond b4
   (T.call Tryd.prog 37 [] false [(false, [.bool])] <| fun (b5 : Bool) =>
   T.ret (.bool b5))
   (T.ret (.bool false)))
theorem t_spandrellaw3_LineKept_eq (s0 : ByteArray) : xfun Tryd.prog [] Tryd.f11 [.string s0] = t_spandrellaw3_LineKept s0 := by kernel_rfl

/-- The tree of 36. -/
def t_spandrellaw3_same (s0 : ByteArray) (s1_0 : ByteArray) (pp02 : Option Addr) (ll02 cc02 : Nat) (s1 : ByteArray) (s1_1 : ByteArray) (pp12 : Option Addr) (ll12 cc12 : Nat) : T :=
 T.new [.string s0, .string s1_0, .slice pp02 ll02 cc02] 48 <| fun (a2 : Addr) =>
 T.new [.string s1, .string s1_1, .slice pp12 ll12 cc12] 53 <| fun (a3 : Addr) =>
 T.loads a2 [.string] <| fun (s4 : ByteArray) =>
 T.loads a3 [.string] <| fun (s5 : ByteArray) =>
 cond (!((ByteArray.toList s4) == (ByteArray.toList s5)))
  (T.ret (.bool false))
  (T.loads (a2.add 1) [.string] <| fun (s6 : ByteArray) =>
  T.loads (a3.add 1) [.string] <| fun (s7 : ByteArray) =>
  cond (!((ByteArray.toList s6) == (ByteArray.toList s7)))
   (T.ret (.bool false))
   (T.loads (a2.add 2) [.slice 23] <| fun (p8 : Option Addr) (l9 : Nat) (l10 : Nat) =>
   T.loads (a3.add 2) [.slice 27] <| fun (p11 : Option Addr) (l12 : Nat) (l13 : Nat) =>
   cond ((l9 : Int) != (l12 : Int))
    (T.ret (.bool false))
    (T.loop [(false, [.bool]), (false, [.int .i64])] [.bool false, .int .i64 (0 : Int)] <| fun (b14 : Bool) (n15 : Int) =>
    T.loads (a2.add 2) [.slice 23] <| fun (p16 : Option Addr) (l17 : Nat) (l18 : Nat) =>
    cond (decide (n15 < (l17 : Int)))
     (T.loads (a2.add 2) [.slice 23] <| fun (p19 : Option Addr) (l20 : Nat) (l21 : Nat) =>
     T.need (((0 : Int) ≤ n15) ∧ (n15 < (l20 : Int))) <|
     T.osome p19 <| fun (a22 : Addr) =>
     T.loads (a22.add ((Int.toNat n15) * 1)) [.slice 35] <| fun (p23 : Option Addr) (l24 : Nat) (l25 : Nat) =>
     T.loads (a3.add 2) [.slice 27] <| fun (p26 : Option Addr) (l27 : Nat) (l28 : Nat) =>
     T.need (((0 : Int) ≤ n15) ∧ (n15 < (l27 : Int))) <|
     T.osome p26 <| fun (a29 : Addr) =>
     T.loads (a29.add ((Int.toNat n15) * 1)) [.slice 105] <| fun (p30 : Option Addr) (l31 : Nat) (l32 : Nat) =>
     T.call Tryd.prog 75 [.slice p23 l24 l25, .slice p30 l31 l32] false [(false, [.bool])] <| fun (b33 : Bool) =>
     T.stable [((a3.add 2), [.slice p26 l27 l28]), ((a2.add 2), [.slice p19 l20 l21])] <|
     cond (!b33)
      (T.ret (.bool false))
      (T.again 0 [.bool b14, .int .i64 (IntKind.wrap .i64 (n15 + (1 : Int)))]))
     (T.ret (.bool true)))))
theorem t_spandrellaw3_same_eq (s0 : ByteArray) (s1_0 : ByteArray) (pp02 : Option Addr) (ll02 cc02 : Nat) (s1 : ByteArray) (s1_1 : ByteArray) (pp12 : Option Addr) (ll12 cc12 : Nat) : xfun Tryd.prog [] Tryd.f36 [.agg #[.string s0, .string s1_0, .slice pp02 ll02 cc02], .agg #[.string s1, .string s1_1, .slice pp12 ll12 cc12]] = t_spandrellaw3_same s0 s1_0 pp02 ll02 cc02 s1 s1_1 pp12 ll12 cc12 := by kernel_rfl

/-- The tree of 37. -/
def t_spandrellaw3_known  : T :=
 T.call Tryd.prog 34 [.string ⟨#[120, 58, 32, 97, 100, 100, 32, 114, 49, 44, 32, 114, 50]⟩] true [(true, [.string, .string, .slice 23]), (false, [.int .i64]), (false, [.int .i64])] <| fun (s1 : ByteArray) (s2 : ByteArray) (p3 : Option Addr) (l4 : Nat) (l5 : Nat) (n6 : Int) (n7 : Int) =>
 T.new [.string ⟨#[]⟩, .string ⟨#[]⟩, .slice none 0 0] 48 <| fun (a8 : Addr) =>
 T.stores a8 [.string s1, .string s2, .slice p3 l4 l5] <|
 T.call Tryd.prog 34 [.string ⟨#[97, 100, 100, 32, 114, 49, 44]⟩] true [(true, [.string, .string, .slice 23]), (false, [.int .i64]), (false, [.int .i64])] <| fun (s9 : ByteArray) (s10 : ByteArray) (p11 : Option Addr) (l12 : Nat) (l13 : Nat) (n14 : Int) (n15 : Int) =>
 T.new [.string ⟨#[]⟩, .string ⟨#[]⟩, .slice none 0 0] 48 <| fun (a16 : Addr) =>
 T.stores a16 [.string s9, .string s10, .slice p11 l12 l13] <|
 cond (n7 == (0 : Int))
  (T.loads a8 [.string] <| fun (s17 : ByteArray) =>
  cond ((ByteArray.toList s17) == [({ toBitVec := 120#8 })])
   (T.loads (a8.add 1) [.string] <| fun (s18 : ByteArray) =>
   cond ((ByteArray.toList s18) == [({ toBitVec := 97#8 }), ({ toBitVec := 100#8 }), ({ toBitVec := 100#8 })])
    (T.loads (a8.add 2) [.slice 23] <| fun (p19 : Option Addr) (l20 : Nat) (l21 : Nat) =>
    cond ((l20 : Int) == (2 : Int))
     (cond (n14 == (7 : Int))
      (T.ret (.bool (n15 == (20 : Int))))
      (T.ret (.bool false)))
     (T.ret (.bool false)))
    (T.ret (.bool false)))
   (T.ret (.bool false)))
  (T.ret (.bool false))
theorem t_spandrellaw3_known_eq  : xfun Tryd.prog [] Tryd.f37 [] = t_spandrellaw3_known  := by kernel_rfl

/-- The tree of 75. -/
def t_spandrellaw3_sameArg (pp00 : Option Addr) (ll00 cc00 : Nat) (pp10 : Option Addr) (ll10 cc10 : Nat) : T :=
 cond ((ll00 : Int) != (ll10 : Int))
  (T.ret (.bool false))
  (T.loop [(false, [.bool]), (false, [.int .i64])] [.bool false, .int .i64 (0 : Int)] <| fun (b2 : Bool) (n3 : Int) =>
  cond (decide (n3 < (ll00 : Int)))
   (T.need (((0 : Int) ≤ n3) ∧ (n3 < (ll00 : Int))) <|
   T.osome pp00 <| fun (a4 : Addr) =>
   T.loads (a4.add ((Int.toNat n3) * 4)) [.int .i64, .string, .int .u32, .int .i64] <| fun (n5 : Int) (s6 : ByteArray) (n7 : Int) (n8 : Int) =>
   T.need (((0 : Int) ≤ n3) ∧ (n3 < (ll10 : Int))) <|
   T.osome pp10 <| fun (a9 : Addr) =>
   T.loads (a9.add ((Int.toNat n3) * 4)) [.int .i64] <| fun (n10 : Int) =>
   T.need (((0 : Int) ≤ n3) ∧ (n3 < (ll10 : Int))) <|
   T.osome pp10 <| fun (a11 : Addr) =>
   T.loads ((a11.add ((Int.toNat n3) * 4)).add 1) [.string] <| fun (s12 : ByteArray) =>
   T.need (((0 : Int) ≤ n3) ∧ (n3 < (ll10 : Int))) <|
   T.osome pp10 <| fun (a13 : Addr) =>
   T.loads ((a13.add ((Int.toNat n3) * 4)).add 2) [.int .u32] <| fun (n14 : Int) =>
   T.need (((0 : Int) ≤ n3) ∧ (n3 < (ll10 : Int))) <|
   T.osome pp10 <| fun (a15 : Addr) =>
   T.loads ((a15.add ((Int.toNat n3) * 4)).add 3) [.int .i64] <| fun (n16 : Int) =>
   T.sem Tryd.prog (Sx.cmpS (BinOp.neq) 35 (Operand.tmp 20) (Operand.tmp 41) (.agg #[.int .i64 n5, .string s6, .int .u32 n7, .int .i64 n8]) (.agg #[.int .i64 n10, .string s12, .int .u32 n14, .int .i64 n16])) false [(false, [.bool])] <| fun (b17 : Bool) =>
   T.stable [(((a15.add ((Int.toNat n3) * 4)).add 3), [.int .i64 n16]), (((a13.add ((Int.toNat n3) * 4)).add 2), [.int .u32 n14]), (((a11.add ((Int.toNat n3) * 4)).add 1), [.string s12]), ((a9.add ((Int.toNat n3) * 4)), [.int .i64 n10])] <|
   cond b17
    (T.ret (.bool false))
    (T.again 0 [.bool b2, .int .i64 (IntKind.wrap .i64 (n3 + (1 : Int)))]))
   (T.ret (.bool true)))
theorem t_spandrellaw3_sameArg_eq (pp00 : Option Addr) (ll00 cc00 : Nat) (pp10 : Option Addr) (ll10 cc10 : Nat) : xfun Tryd.prog [] Tryd.f75 [.slice pp00 ll00 cc00, .slice pp10 ll10 cc10] = t_spandrellaw3_sameArg pp00 ll00 cc00 pp10 ll10 cc10 := by kernel_rfl

end Go.Sx
