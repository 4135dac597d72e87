/- Trees of functions, each checked by the kernel against the code. No condition. -/
import Derived.Test.YtpbjlnlekobodaaDoorSxF
import Derived.Test.YtpbjlnlekobodaaDoorProg
import Derived.KernelRfl
set_option linter.unusedVariables false
set_option linter.unusedSimpArgs false
set_option linter.deprecated false
set_option maxRecDepth 100000
namespace Go.Sx
open Go.Proofs
/-- The tree of 43. -/
def t_spandrellaw4_few (s0 : ByteArray) (n1 : Int) : T :=
 cond (decide ((s0.size : Int) > n1))
  (T.need (((0 : Int) ≤ (0 : Int)) ∧ (((0 : Int) ≤ n1) ∧ (n1 ≤ (s0.size : Int)))) <|
  T.ret (.string (ByteArray.extract s0 0 (Int.toNat n1))))
  (T.ret (.string s0))
theorem t_spandrellaw4_few_eq (s0 : ByteArray) (n1 : Int) : xfun Tryd.prog [] Tryd.f43 [.string s0, .int .i64 n1] = t_spandrellaw4_few s0 n1 := by kernel_rfl

/-- The tree of 17. -/
def t_spandrellaw4_ExprNumbers  : T :=
 T.call Tryd.prog 60 [.string ⟨#[97, 42, 98]⟩] true [(true, [.slice 80, .int .u32]), (false, [.int .i64])] <| fun (p1 : Option Addr) (l2 : Nat) (l3 : Nat) (n4 : Int) (n5 : Int) =>
 T.new [.slice none 0 0, .int .u32 (0 : Int)] 69 <| fun (a6 : Addr) =>
 T.stores a6 [.slice p1 l2 l3, .int .u32 n4] <|
 T.call Tryd.prog 60 [.string ⟨#[40, 97, 45, 97, 41, 42, 98]⟩] true [(true, [.slice 80, .int .u32]), (false, [.int .i64])] <| fun (p7 : Option Addr) (l8 : Nat) (l9 : Nat) (n10 : Int) (n11 : Int) =>
 T.new [.slice none 0 0, .int .u32 (0 : Int)] 69 <| fun (a12 : Addr) =>
 T.stores a12 [.slice p7 l8 l9, .int .u32 n10] <|
 T.call Tryd.prog 60 [.string ⟨#[97, 43]⟩] true [(true, [.slice 80, .int .u32]), (false, [.int .i64])] <| fun (p13 : Option Addr) (l14 : Nat) (l15 : Nat) (n16 : Int) (n17 : Int) =>
 T.new [.slice none 0 0, .int .u32 (0 : Int)] 69 <| fun (a18 : Addr) =>
 T.stores a18 [.slice p13 l14 l15, .int .u32 n16] <|
 T.call Tryd.prog 60 [.string ⟨#[114, 49]⟩] true [(true, [.slice 80, .int .u32]), (false, [.int .i64])] <| fun (p19 : Option Addr) (l20 : Nat) (l21 : Nat) (n22 : Int) (n23 : Int) =>
 T.new [.slice none 0 0, .int .u32 (0 : Int)] 69 <| fun (a24 : Addr) =>
 T.stores a24 [.slice p19 l20 l21, .int .u32 n22] <|
 T.call Tryd.prog 60 [.string ⟨#[]⟩] true [(true, [.slice 80, .int .u32]), (false, [.int .i64])] <| fun (p25 : Option Addr) (l26 : Nat) (l27 : Nat) (n28 : Int) (n29 : Int) =>
 T.new [.slice none 0 0, .int .u32 (0 : Int)] 69 <| fun (a30 : Addr) =>
 T.stores a30 [.slice p25 l26 l27, .int .u32 n28] <|
 T.call Tryd.prog 60 [.string ⟨#[45, 32, 45, 49]⟩] true [(true, [.slice 80, .int .u32]), (false, [.int .i64])] <| fun (p31 : Option Addr) (l32 : Nat) (l33 : Nat) (n34 : Int) (n35 : Int) =>
 T.new [.slice none 0 0, .int .u32 (0 : Int)] 69 <| fun (a36 : Addr) =>
 T.stores a36 [.slice p31 l32 l33, .int .u32 n34] <|
 T.call Tryd.prog 56 [.string ⟨#[113]⟩] false [(true, [.slice 80, .int .u32])] <| fun (p37 : Option Addr) (l38 : Nat) (l39 : Nat) (n40 : Int) =>
 T.call Tryd.prog 51 [.agg #[.slice p37 l38 l39, .int .u32 n40], .map none] true [(false, [.int .u32]), (false, [.bool])] <| fun (n41 : Int) (b42 : Bool) =>
 T.loop [(false, [.string]), (false, [.int .i64])] [.string ⟨#[49]⟩, .int .i64 (0 : Int)] <| fun (s43 : ByteArray) (n44 : Int) =>
 cond (decide (n44 < (32 : Int)))
  (T.need (((1 + s43.size) : Int) ≤ (9223372036854775807 : Int)) <|
  T.need ((((ByteArray.size (⟨#[40]⟩ ++ s43)) + 1) : Int) ≤ (9223372036854775807 : Int)) <|
  T.again 0 [.string ((⟨#[40]⟩ ++ s43) ++ ⟨#[41]⟩), .int .i64 (IntKind.wrap .i64 (n44 + (1 : Int)))])
  (T.call Tryd.prog 60 [.string s43] true [(true, [.slice 80, .int .u32]), (false, [.int .i64])] <| fun (p45 : Option Addr) (l46 : Nat) (l47 : Nat) (n48 : Int) (n49 : Int) =>
  T.new [.slice none 0 0, .int .u32 (0 : Int)] 69 <| fun (a50 : Addr) =>
  T.stores a50 [.slice p45 l46 l47, .int .u32 n48] <|
  T.need (((1 + s43.size) : Int) ≤ (9223372036854775807 : Int)) <|
  T.need ((((ByteArray.size (⟨#[40]⟩ ++ s43)) + 1) : Int) ≤ (9223372036854775807 : Int)) <|
  T.call Tryd.prog 60 [.string ((⟨#[40]⟩ ++ s43) ++ ⟨#[41]⟩)] true [(true, [.slice 80, .int .u32]), (false, [.int .i64])] <| fun (p51 : Option Addr) (l52 : Nat) (l53 : Nat) (n54 : Int) (n55 : Int) =>
  T.new [.slice none 0 0, .int .u32 (0 : Int)] 69 <| fun (a56 : Addr) =>
  T.stores a56 [.slice p51 l52 l53, .int .u32 n54] <|
  cond (n5 == (21 : Int))
   (cond (n11 == (0 : Int))
    (T.loads a12 [.slice 80, .int .u32] <| fun (p57 : Option Addr) (l58 : Nat) (l59 : Nat) (n60 : Int) =>
    T.call Tryd.prog 61 [.agg #[.slice p57 l58 l59, .int .u32 n60]] false [(false, [.string])] <| fun (s61 : ByteArray) =>
    cond ((ByteArray.toList s61) == [({ toBitVec := 48#8 })])
     (cond (n17 == (20 : Int))
      (cond (n23 == (20 : Int))
       (cond (n29 == (20 : Int))
        (cond (n35 == (0 : Int))
         (T.loads (a36.add 1) [.int .u32] <| fun (n62 : Int) =>
         cond (n62 == (1 : Int))
          (cond (!b42)
           (cond (n49 == (0 : Int))
            (cond (n55 == (21 : Int))
             (T.call Tryd.prog 62 [.int .u32 (0 : Int)] false [(true, [.slice 80, .int .u32])] <| fun (p63 : Option Addr) (l64 : Nat) (l65 : Nat) (n66 : Int) =>
             T.call Tryd.prog 61 [.agg #[.slice p63 l64 l65, .int .u32 n66]] false [(false, [.string])] <| fun (s67 : ByteArray) =>
             cond ((ByteArray.toList s67) == [({ toBitVec := 48#8 })])
              (T.call Tryd.prog 56 [.string ⟨#[97]⟩] false [(true, [.slice 80, .int .u32])] <| fun (p68 : Option Addr) (l69 : Nat) (l70 : Nat) (n71 : Int) =>
              T.call Tryd.prog 61 [.agg #[.slice p68 l69 l70, .int .u32 n71]] false [(false, [.string])] <| fun (s72 : ByteArray) =>
              cond ((ByteArray.toList s72) == [({ toBitVec := 97#8 })])
               (T.call Tryd.prog 44 [] false [(false, [.bool])] <| fun (b73 : Bool) =>
               T.ret (.bool b73))
               (T.ret (.bool false)))
              (T.ret (.bool false)))
             (T.ret (.bool false)))
            (T.ret (.bool false)))
           (T.ret (.bool false)))
          (T.ret (.bool false)))
         (T.ret (.bool false)))
        (T.ret (.bool false)))
       (T.ret (.bool false)))
      (T.ret (.bool false)))
     (T.ret (.bool false)))
    (T.ret (.bool false)))
   (T.ret (.bool false)))
theorem t_spandrellaw4_ExprNumbers_eq  : xfun Tryd.prog [] Tryd.f17 [] = t_spandrellaw4_ExprNumbers  := by kernel_rfl

end Go.Sx
