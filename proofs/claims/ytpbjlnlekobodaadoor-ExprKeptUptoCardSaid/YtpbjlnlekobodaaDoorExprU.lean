/- Trees of functions, each checked by the kernel against the code. No condition. -/
import Derived.Test.YtpbjlnlekobodaaDoorSxF
import Derived.Test.YtpbjlnlekobodaaDoorProg
import Derived.KernelRfl
set_option linter.unusedVariables false
set_option linter.unusedSimpArgs false
set_option linter.deprecated false
set_option maxRecDepth 100000
namespace Go.Sx
open Go.Proofs
/-- The tree of 46. -/
def t_expr_Parse (pp00 : Option Addr) (ll00 cc00 : Nat) : T :=
 T.new [.slice none 0 0, .int .u32 (0 : Int)] 69 <| fun (a1 : Addr) =>
 T.new [.slice pp00 ll00 cc00, .int .i64 (0 : Int), .int .i64 (0 : Int)] 118 <| fun (a2 : Addr) =>
 T.new [.pointer none] 116 <| fun (a3 : Addr) =>
 T.stores a3 [.pointer (some a2)] <|
 T.new [.nilFunc] 119 <| fun (a4 : Addr) =>
 T.new [.nilFunc] 119 <| fun (a5 : Addr) =>
 T.stores a5 [.func (Fn.func 78) #[] #[.pointer (some a3), .pointer (some a4)]] <|
 T.new [.nilFunc] 119 <| fun (a6 : Addr) =>
 T.stores a6 [.func (Fn.func 81) #[] #[.pointer (some a5), .pointer (some a3)]] <|
 T.stores a4 [.func (Fn.func 82) #[] #[.pointer (some a6), .pointer (some a3)]] <|
 T.loads a4 [.func #[] #[69] false] <| fun (v7 : Value) =>
 T.callv Tryd.prog v7 [] false [(true, [.slice 80, .int .u32])] <| fun (p8 : Option Addr) (l9 : Nat) (l10 : Nat) (n11 : Int) =>
 T.new [.slice none 0 0, .int .u32 (0 : Int)] 69 <| fun (a12 : Addr) =>
 T.stores a12 [.slice p8 l9 l10, .int .u32 n11] <|
 T.loads a3 [.pointer 118] <| fun (p13 : Option Addr) =>
 T.osome p13 <| fun (a14 : Addr) =>
 T.loads a14 [.slice 35] <| fun (p15 : Option Addr) (l16 : Nat) (l17 : Nat) =>
 cond (decide ((l16 : Int) > (0 : Int)))
  (T.loads a3 [.pointer 118] <| fun (p18 : Option Addr) =>
  T.call Tryd.prog 80 [.pointer p18, .int .i64 (20 : Int)] true [] <| T.loads a3 [.pointer 118] <| fun (p19 : Option Addr) =>
  T.osome p19 <| fun (a20 : Addr) =>
  T.loads (a20.add 2) [.int .i64] <| fun (n21 : Int) =>
  cond (n21 != (0 : Int))
   (T.loads a3 [.pointer 118] <| fun (p22 : Option Addr) =>
   T.osome p22 <| fun (a23 : Addr) =>
   T.loads (a23.add 2) [.int .i64] <| fun (n24 : Int) =>
   T.stores a1 [.slice none 0 0, .int .u32 (0 : Int)] <|
   T.stable [((a23.add 2), [.int .i64 n24]), (a3, [.pointer p22])] <|
   T.loads a1 [.slice 80, .int .u32] <| fun (p25 : Option Addr) (l26 : Nat) (l27 : Nat) (n28 : Int) =>
   T.ret (.tuple #[.agg #[.slice p25 l26 l27, .int .u32 n28], .int .i64 n24]))
   (T.loads a12 [.slice 80, .int .u32] <| fun (p22 : Option Addr) (l23 : Nat) (l24 : Nat) (n25 : Int) =>
   T.stores a1 [.slice p22 l23 l24, .int .u32 n25] <|
   T.loads a1 [.slice 80, .int .u32] <| fun (p26 : Option Addr) (l27 : Nat) (l28 : Nat) (n29 : Int) =>
   T.ret (.tuple #[.agg #[.slice p26 l27 l28, .int .u32 n29], .int .i64 (0 : Int)])))
  (T.loads a3 [.pointer 118] <| fun (p18 : Option Addr) =>
  T.osome p18 <| fun (a19 : Addr) =>
  T.loads (a19.add 2) [.int .i64] <| fun (n20 : Int) =>
  cond (n20 != (0 : Int))
   (T.loads a3 [.pointer 118] <| fun (p21 : Option Addr) =>
   T.osome p21 <| fun (a22 : Addr) =>
   T.loads (a22.add 2) [.int .i64] <| fun (n23 : Int) =>
   T.stores a1 [.slice none 0 0, .int .u32 (0 : Int)] <|
   T.stable [((a22.add 2), [.int .i64 n23]), (a3, [.pointer p21])] <|
   T.loads a1 [.slice 80, .int .u32] <| fun (p24 : Option Addr) (l25 : Nat) (l26 : Nat) (n27 : Int) =>
   T.ret (.tuple #[.agg #[.slice p24 l25 l26, .int .u32 n27], .int .i64 n23]))
   (T.loads a12 [.slice 80, .int .u32] <| fun (p21 : Option Addr) (l22 : Nat) (l23 : Nat) (n24 : Int) =>
   T.stores a1 [.slice p21 l22 l23, .int .u32 n24] <|
   T.loads a1 [.slice 80, .int .u32] <| fun (p25 : Option Addr) (l26 : Nat) (l27 : Nat) (n28 : Int) =>
   T.ret (.tuple #[.agg #[.slice p25 l26 l27, .int .u32 n28], .int .i64 (0 : Int)])))
theorem t_expr_Parse_eq (pp00 : Option Addr) (ll00 cc00 : Nat) : xfun Tryd.prog [] Tryd.f46 [.slice pp00 ll00 cc00] = t_expr_Parse pp00 ll00 cc00 := by kernel_rfl

/-- The tree of 78, at some arguments. -/
def t_expr_Parse_1_factor (a : Addr) (b : Addr) : T :=
 T.new [.slice none 0 0, .int .u32 (0 : Int)] 69 <| fun (a1 : Addr) =>
 T.loop [(false, [.int .u32])] [.int .u32 (1 : Int)] <| fun (n2 : Int) =>
 T.loads a [.pointer 118] <| fun (p3 : Option Addr) =>
 T.call Tryd.prog 79 [.pointer p3, .string ⟨#[45]⟩] false [(false, [.bool])] <| fun (b4 : Bool) =>
 cond b4
  (T.again 0 [.int .u32 (IntKind.wrap .u32 ((0 : Int) - n2))])
  (T.join [(false, [.bool])]
   (T.loads a [.pointer 118] <| fun (p5 : Option Addr) =>
   T.osome p5 <| fun (a6 : Addr) =>
   T.loads (a6.add 2) [.int .i64] <| fun (n7 : Int) =>
   cond (n7 != (0 : Int))
    (T.again 1 [.bool true])
    (T.loads a [.pointer 118] <| fun (p8 : Option Addr) =>
    T.osome p8 <| fun (a9 : Addr) =>
    T.loads a9 [.slice 35] <| fun (p10 : Option Addr) (l11 : Nat) (l12 : Nat) =>
    T.again 1 [.bool ((l11 : Int) == (0 : Int))])) <| fun (b5 : Bool) =>
  cond b5
   (T.loads a [.pointer 118] <| fun (p6 : Option Addr) =>
   T.call Tryd.prog 80 [.pointer p6, .int .i64 (20 : Int)] true [] <| T.stores a1 [.slice none 0 0, .int .u32 (0 : Int)] <|
   T.loads a1 [.slice 80, .int .u32] <| fun (p7 : Option Addr) (l8 : Nat) (l9 : Nat) (n10 : Int) =>
   T.ret (.agg #[.slice p7 l8 l9, .int .u32 n10]))
   (T.loads a [.pointer 118] <| fun (p6 : Option Addr) =>
   T.osome p6 <| fun (a7 : Addr) =>
   T.loads a7 [.slice 35] <| fun (p8 : Option Addr) (l9 : Nat) (l10 : Nat) =>
   T.need (((0 : Int) ≤ (0 : Int)) ∧ ((0 : Int) < (l9 : Int))) <|
   T.osome p8 <| fun (a11 : Addr) =>
   T.loads a11 [.int .i64, .string, .int .u32, .int .i64] <| fun (n12 : Int) (s13 : ByteArray) (n14 : Int) (n15 : Int) =>
   T.new [.int .i64 (0 : Int), .string ⟨#[]⟩, .int .u32 (0 : Int), .int .i64 (0 : Int)] 35 <| fun (a16 : Addr) =>
   T.stores a16 [.int .i64 n12, .string s13, .int .u32 n14, .int .i64 n15] <|
   T.loads (a16.add 1) [.string] <| fun (s17 : ByteArray) =>
   T.call Tryd.prog 29 [.string s17] true [(false, [.int .i64]), (false, [.bool]), (false, [.bool])] <| fun (n18 : Int) (b19 : Bool) (b20 : Bool) =>
   T.new [.slice none 0 0, .int .u32 (0 : Int)] 69 <| fun (a21 : Addr) =>
   T.join []
    (T.join [(false, [.bool])]
     (T.loads a16 [.int .i64] <| fun (n22 : Int) =>
     cond (n22 == (1 : Int))
      (T.again 2 [.bool b20])
      (T.again 2 [.bool false])) <| fun (b22 : Bool) =>
    cond b22
     (T.loads a [.pointer 118] <| fun (p23 : Option Addr) =>
     T.call Tryd.prog 80 [.pointer p23, .int .i64 (20 : Int)] true [] <| T.again 1 [])
     (T.loads a16 [.int .i64] <| fun (n23 : Int) =>
     cond (n23 == (1 : Int))
      (T.loads (a16.add 1) [.string] <| fun (s24 : ByteArray) =>
      T.call Tryd.prog 56 [.string s24] false [(true, [.slice 80, .int .u32])] <| fun (p25 : Option Addr) (l26 : Nat) (l27 : Nat) (n28 : Int) =>
      T.stores a21 [.slice p25 l26 l27, .int .u32 n28] <|
      T.loads (a21.add 1) [.int .u32] <| fun (n29 : Int) =>
      T.loads (a16.add 2) [.int .u32] <| fun (n30 : Int) =>
      T.stores (a21.add 1) [.int .u32 (IntKind.wrap .u32 (n29 + n30))] <|
      T.loads a [.pointer 118] <| fun (p31 : Option Addr) =>
      T.loads a [.pointer 118] <| fun (p32 : Option Addr) =>
      T.osome p32 <| fun (a33 : Addr) =>
      T.loads a33 [.slice 35] <| fun (p34 : Option Addr) (l35 : Nat) (l36 : Nat) =>
      T.need (((0 : Int) ≤ (1 : Int)) ∧ (((1 : Int) ≤ (l35 : Int)) ∧ ((l35 : Int) ≤ (l36 : Int)))) <|
      T.osome p31 <| fun (a37 : Addr) =>
      T.stores a37 [.slice (if (l36 = 1) then p34 else (Option.map (fun a => Addr.add a 4) p34)) ((Int.toNat (l35 : Int)) - 1) (l36 - 1)] <|
      T.again 1 [])
      (T.loads a16 [.int .i64] <| fun (n24 : Int) =>
      cond (n24 == (2 : Int))
       (T.loads (a21.add 1) [.int .u32] <| fun (n25 : Int) =>
       T.loads (a16.add 2) [.int .u32] <| fun (n26 : Int) =>
       T.stores (a21.add 1) [.int .u32 (IntKind.wrap .u32 (n25 + n26))] <|
       T.loads a [.pointer 118] <| fun (p27 : Option Addr) =>
       T.loads a [.pointer 118] <| fun (p28 : Option Addr) =>
       T.osome p28 <| fun (a29 : Addr) =>
       T.loads a29 [.slice 35] <| fun (p30 : Option Addr) (l31 : Nat) (l32 : Nat) =>
       T.need (((0 : Int) ≤ (1 : Int)) ∧ (((1 : Int) ≤ (l31 : Int)) ∧ ((l31 : Int) ≤ (l32 : Int)))) <|
       T.osome p27 <| fun (a33 : Addr) =>
       T.stores a33 [.slice (if (l32 = 1) then p30 else (Option.map (fun a => Addr.add a 4) p30)) ((Int.toNat (l31 : Int)) - 1) (l32 - 1)] <|
       T.again 1 [])
       (T.loads a [.pointer 118] <| fun (p25 : Option Addr) =>
       T.call Tryd.prog 79 [.pointer p25, .string ⟨#[40]⟩] false [(false, [.bool])] <| fun (b26 : Bool) =>
       cond b26
        (T.loads a [.pointer 118] <| fun (p27 : Option Addr) =>
        T.osome p27 <| fun (a28 : Addr) =>
        T.loads (a28.add 1) [.int .i64] <| fun (n29 : Int) =>
        T.osome p27 <| fun (a30 : Addr) =>
        T.stores (a30.add 1) [.int .i64 (IntKind.wrap .i64 (n29 + (1 : Int)))] <|
        T.loads a [.pointer 118] <| fun (p31 : Option Addr) =>
        T.osome p31 <| fun (a32 : Addr) =>
        T.loads (a32.add 1) [.int .i64] <| fun (n33 : Int) =>
        cond (decide (n33 > (32 : Int)))
         (T.loads a [.pointer 118] <| fun (p34 : Option Addr) =>
         T.call Tryd.prog 80 [.pointer p34, .int .i64 (21 : Int)] true [] <| T.again 1 [])
         (T.loads b [.func #[] #[69] false] <| fun (v34 : Value) =>
         T.callv Tryd.prog v34 [] false [(true, [.slice 80, .int .u32])] <| fun (p35 : Option Addr) (l36 : Nat) (l37 : Nat) (n38 : Int) =>
         T.stores a21 [.slice p35 l36 l37, .int .u32 n38] <|
         T.loads a [.pointer 118] <| fun (p39 : Option Addr) =>
         T.osome p39 <| fun (a40 : Addr) =>
         T.loads (a40.add 1) [.int .i64] <| fun (n41 : Int) =>
         T.osome p39 <| fun (a42 : Addr) =>
         T.stores (a42.add 1) [.int .i64 (IntKind.wrap .i64 (n41 - (1 : Int)))] <|
         T.loads a [.pointer 118] <| fun (p43 : Option Addr) =>
         T.call Tryd.prog 79 [.pointer p43, .string ⟨#[41]⟩] false [(false, [.bool])] <| fun (b44 : Bool) =>
         cond (!b44)
          (T.loads a [.pointer 118] <| fun (p45 : Option Addr) =>
          T.call Tryd.prog 80 [.pointer p45, .int .i64 (20 : Int)] true [] <| T.again 1 [])
          (T.again 1 [])))
        (T.loads a [.pointer 118] <| fun (p27 : Option Addr) =>
        T.call Tryd.prog 80 [.pointer p27, .int .i64 (20 : Int)] true [] <| T.again 1 []))))) <| T.loads a21 [.slice 80, .int .u32] <| fun (p22 : Option Addr) (l23 : Nat) (l24 : Nat) (n25 : Int) =>
   T.call Tryd.prog 53 [.agg #[.slice p22 l23 l24, .int .u32 n25], .int .u32 n2] false [(true, [.slice 80, .int .u32])] <| fun (p26 : Option Addr) (l27 : Nat) (l28 : Nat) (n29 : Int) =>
   T.stores a1 [.slice p26 l27 l28, .int .u32 n29] <|
   T.loads a1 [.slice 80, .int .u32] <| fun (p30 : Option Addr) (l31 : Nat) (l32 : Nat) (n33 : Int) =>
   T.ret (.agg #[.slice p30 l31 l32, .int .u32 n33])))
theorem t_expr_Parse_1_factor_eq (a : Addr) (b : Addr) : xfun Tryd.prog [4, 10, 1026] Tryd.f78 [.pointer (some a), .pointer (some b)] = t_expr_Parse_1_factor a b := by kernel_rfl

/-- The tree of 81, at some arguments. -/
def t_expr_Parse_2_part (a : Addr) (b : Addr) : T :=
 T.new [.slice none 0 0, .int .u32 (0 : Int)] 69 <| fun (a1 : Addr) =>
 T.loads a [.func #[] #[69] false] <| fun (v2 : Value) =>
 T.callv Tryd.prog v2 [] false [(true, [.slice 80, .int .u32])] <| fun (p3 : Option Addr) (l4 : Nat) (l5 : Nat) (n6 : Int) =>
 T.new [.slice none 0 0, .int .u32 (0 : Int)] 69 <| fun (a7 : Addr) =>
 T.stores a7 [.slice p3 l4 l5, .int .u32 n6] <|
 T.loop [] [] <| T.loads b [.pointer 118] <| fun (p8 : Option Addr) =>
 T.call Tryd.prog 79 [.pointer p8, .string ⟨#[42]⟩] false [(false, [.bool])] <| fun (b9 : Bool) =>
 cond b9
  (T.loads a [.func #[] #[69] false] <| fun (v10 : Value) =>
  T.callv Tryd.prog v10 [] false [(true, [.slice 80, .int .u32])] <| fun (p11 : Option Addr) (l12 : Nat) (l13 : Nat) (n14 : Int) =>
  T.new [.slice none 0 0, .int .u32 (0 : Int)] 69 <| fun (a15 : Addr) =>
  T.stores a15 [.slice p11 l12 l13, .int .u32 n14] <|
  T.loads b [.pointer 118] <| fun (p16 : Option Addr) =>
  T.osome p16 <| fun (a17 : Addr) =>
  T.loads (a17.add 2) [.int .i64] <| fun (n18 : Int) =>
  cond (n18 != (0 : Int))
   (T.again 0 [])
   (T.join [(false, [.bool])]
    (T.loads a7 [.slice 80] <| fun (p19 : Option Addr) (l20 : Nat) (l21 : Nat) =>
    cond (decide ((l20 : Int) > (0 : Int)))
     (T.loads a15 [.slice 80] <| fun (p22 : Option Addr) (l23 : Nat) (l24 : Nat) =>
     T.again 1 [.bool (decide ((l23 : Int) > (0 : Int)))])
     (T.again 1 [.bool false])) <| fun (b19 : Bool) =>
   cond b19
    (T.loads b [.pointer 118] <| fun (p20 : Option Addr) =>
    T.call Tryd.prog 80 [.pointer p20, .int .i64 (21 : Int)] true [] <| T.again 0 [])
    (T.loads a15 [.slice 80] <| fun (p20 : Option Addr) (l21 : Nat) (l22 : Nat) =>
    cond (decide ((l21 : Int) > (0 : Int)))
     (T.loads a15 [.slice 80, .int .u32] <| fun (p23 : Option Addr) (l24 : Nat) (l25 : Nat) (n26 : Int) =>
     T.loads (a7.add 1) [.int .u32] <| fun (n27 : Int) =>
     T.call Tryd.prog 53 [.agg #[.slice p23 l24 l25, .int .u32 n26], .int .u32 n27] false [(true, [.slice 80, .int .u32])] <| fun (p28 : Option Addr) (l29 : Nat) (l30 : Nat) (n31 : Int) =>
     T.stores a7 [.slice p28 l29 l30, .int .u32 n31] <|
     T.again 0 [])
     (T.loads a7 [.slice 80, .int .u32] <| fun (p23 : Option Addr) (l24 : Nat) (l25 : Nat) (n26 : Int) =>
     T.loads (a15.add 1) [.int .u32] <| fun (n27 : Int) =>
     T.call Tryd.prog 53 [.agg #[.slice p23 l24 l25, .int .u32 n26], .int .u32 n27] false [(true, [.slice 80, .int .u32])] <| fun (p28 : Option Addr) (l29 : Nat) (l30 : Nat) (n31 : Int) =>
     T.stores a7 [.slice p28 l29 l30, .int .u32 n31] <|
     T.again 0 []))))
  (T.loads a7 [.slice 80, .int .u32] <| fun (p10 : Option Addr) (l11 : Nat) (l12 : Nat) (n13 : Int) =>
  T.stores a1 [.slice p10 l11 l12, .int .u32 n13] <|
  T.loads a1 [.slice 80, .int .u32] <| fun (p14 : Option Addr) (l15 : Nat) (l16 : Nat) (n17 : Int) =>
  T.ret (.agg #[.slice p14 l15 l16, .int .u32 n17]))
theorem t_expr_Parse_2_part_eq (a : Addr) (b : Addr) : xfun Tryd.prog [6] Tryd.f81 [.pointer (some a), .pointer (some b)] = t_expr_Parse_2_part a b := by kernel_rfl

/-- The tree of 82, at some arguments. -/
def t_expr_Parse_3_sum (a : Addr) (b : Addr) : T :=
 T.new [.slice none 0 0, .int .u32 (0 : Int)] 69 <| fun (a1 : Addr) =>
 T.loads a [.func #[] #[69] false] <| fun (v2 : Value) =>
 T.callv Tryd.prog v2 [] false [(true, [.slice 80, .int .u32])] <| fun (p3 : Option Addr) (l4 : Nat) (l5 : Nat) (n6 : Int) =>
 T.new [.slice none 0 0, .int .u32 (0 : Int)] 69 <| fun (a7 : Addr) =>
 T.stores a7 [.slice p3 l4 l5, .int .u32 n6] <|
 T.loop [] [] <| T.loads b [.pointer 118] <| fun (p8 : Option Addr) =>
 T.osome p8 <| fun (a9 : Addr) =>
 T.loads (a9.add 2) [.int .i64] <| fun (n10 : Int) =>
 cond (n10 == (0 : Int))
  (T.loads b [.pointer 118] <| fun (p11 : Option Addr) =>
  T.call Tryd.prog 79 [.pointer p11, .string ⟨#[43]⟩] false [(false, [.bool])] <| fun (b12 : Bool) =>
  cond b12
   (T.loads a7 [.slice 80, .int .u32] <| fun (p13 : Option Addr) (l14 : Nat) (l15 : Nat) (n16 : Int) =>
   T.loads a [.func #[] #[69] false] <| fun (v17 : Value) =>
   T.callv Tryd.prog v17 [] false [(true, [.slice 80, .int .u32])] <| fun (p18 : Option Addr) (l19 : Nat) (l20 : Nat) (n21 : Int) =>
   T.stable [(a7, [.slice p13 l14 l15, .int .u32 n16])] <|
   T.call Tryd.prog 52 [.agg #[.slice p13 l14 l15, .int .u32 n16], .agg #[.slice p18 l19 l20, .int .u32 n21]] false [(true, [.slice 80, .int .u32])] <| fun (p22 : Option Addr) (l23 : Nat) (l24 : Nat) (n25 : Int) =>
   T.stable [(a, [v17])] <|
   T.stores a7 [.slice p22 l23 l24, .int .u32 n25] <|
   T.again 0 [])
   (T.loads b [.pointer 118] <| fun (p13 : Option Addr) =>
   T.call Tryd.prog 79 [.pointer p13, .string ⟨#[45]⟩] false [(false, [.bool])] <| fun (b14 : Bool) =>
   cond b14
    (T.loads a7 [.slice 80, .int .u32] <| fun (p15 : Option Addr) (l16 : Nat) (l17 : Nat) (n18 : Int) =>
    T.loads a [.func #[] #[69] false] <| fun (v19 : Value) =>
    T.callv Tryd.prog v19 [] false [(true, [.slice 80, .int .u32])] <| fun (p20 : Option Addr) (l21 : Nat) (l22 : Nat) (n23 : Int) =>
    T.stable [(a7, [.slice p15 l16 l17, .int .u32 n18])] <|
    T.call Tryd.prog 53 [.agg #[.slice p20 l21 l22, .int .u32 n23], .int .u32 (4294967295 : Int)] false [(true, [.slice 80, .int .u32])] <| fun (p24 : Option Addr) (l25 : Nat) (l26 : Nat) (n27 : Int) =>
    T.stable [(a, [v19]), (a7, [.slice p15 l16 l17, .int .u32 n18])] <|
    T.call Tryd.prog 52 [.agg #[.slice p15 l16 l17, .int .u32 n18], .agg #[.slice p24 l25 l26, .int .u32 n27]] false [(true, [.slice 80, .int .u32])] <| fun (p28 : Option Addr) (l29 : Nat) (l30 : Nat) (n31 : Int) =>
    T.stable [(a, [v19])] <|
    T.stores a7 [.slice p28 l29 l30, .int .u32 n31] <|
    T.again 0 [])
    (T.loads a7 [.slice 80, .int .u32] <| fun (p15 : Option Addr) (l16 : Nat) (l17 : Nat) (n18 : Int) =>
    T.stores a1 [.slice p15 l16 l17, .int .u32 n18] <|
    T.loads a1 [.slice 80, .int .u32] <| fun (p19 : Option Addr) (l20 : Nat) (l21 : Nat) (n22 : Int) =>
    T.ret (.agg #[.slice p19 l20 l21, .int .u32 n22]))))
  (T.loads a7 [.slice 80, .int .u32] <| fun (p11 : Option Addr) (l12 : Nat) (l13 : Nat) (n14 : Int) =>
  T.stores a1 [.slice p11 l12 l13, .int .u32 n14] <|
  T.loads a1 [.slice 80, .int .u32] <| fun (p15 : Option Addr) (l16 : Nat) (l17 : Nat) (n18 : Int) =>
  T.ret (.agg #[.slice p15 l16 l17, .int .u32 n18]))
theorem t_expr_Parse_3_sum_eq (a : Addr) (b : Addr) : xfun Tryd.prog [] Tryd.f82 [.pointer (some a), .pointer (some b)] = t_expr_Parse_3_sum a b := by kernel_rfl

/-- The tree of 47. -/
def t_spandrelref4_Parse (pp00 : Option Addr) (ll00 cc00 : Nat) : T :=
 T.new [.slice none 0 0, .int .u32 (0 : Int)] 69 <| fun (a1 : Addr) =>
 T.new [.slice pp00 ll00 cc00, .int .i64 (0 : Int), .int .i64 (0 : Int), .int .i64 (0 : Int)] 123 <| fun (a2 : Addr) =>
 T.call Tryd.prog 83 [.pointer (some a2)] false [(true, [.slice 80, .int .u32])] <| fun (p3 : Option Addr) (l4 : Nat) (l5 : Nat) (n6 : Int) =>
 T.new [.slice none 0 0, .int .u32 (0 : Int)] 69 <| fun (a7 : Addr) =>
 T.stores a7 [.slice p3 l4 l5, .int .u32 n6] <|
 T.loads (a2.add 3) [.int .i64] <| fun (n8 : Int) =>
 cond (n8 == (0 : Int))
  (T.loads (a2.add 1) [.int .i64] <| fun (n9 : Int) =>
  cond (decide (n9 < (ll00 : Int)))
   (T.call Tryd.prog 84 [.pointer (some a2), .int .i64 (20 : Int)] true [] <| T.loads (a2.add 3) [.int .i64] <| fun (n10 : Int) =>
   cond (n10 != (0 : Int))
    (T.loads (a2.add 3) [.int .i64] <| fun (n11 : Int) =>
    T.stores a1 [.slice none 0 0, .int .u32 (0 : Int)] <|
    T.stable [((a2.add 3), [.int .i64 n11])] <|
    T.loads a1 [.slice 80, .int .u32] <| fun (p12 : Option Addr) (l13 : Nat) (l14 : Nat) (n15 : Int) =>
    T.ret (.tuple #[.agg #[.slice p12 l13 l14, .int .u32 n15], .int .i64 n11]))
    (T.loads a7 [.slice 80, .int .u32] <| fun (p11 : Option Addr) (l12 : Nat) (l13 : Nat) (n14 : Int) =>
    T.stores a1 [.slice p11 l12 l13, .int .u32 n14] <|
    T.loads a1 [.slice 80, .int .u32] <| fun (p15 : Option Addr) (l16 : Nat) (l17 : Nat) (n18 : Int) =>
    T.ret (.tuple #[.agg #[.slice p15 l16 l17, .int .u32 n18], .int .i64 (0 : Int)])))
   (T.loads (a2.add 3) [.int .i64] <| fun (n10 : Int) =>
   cond (n10 != (0 : Int))
    (T.loads (a2.add 3) [.int .i64] <| fun (n11 : Int) =>
    T.stores a1 [.slice none 0 0, .int .u32 (0 : Int)] <|
    T.stable [((a2.add 3), [.int .i64 n11])] <|
    T.loads a1 [.slice 80, .int .u32] <| fun (p12 : Option Addr) (l13 : Nat) (l14 : Nat) (n15 : Int) =>
    T.ret (.tuple #[.agg #[.slice p12 l13 l14, .int .u32 n15], .int .i64 n11]))
    (T.loads a7 [.slice 80, .int .u32] <| fun (p11 : Option Addr) (l12 : Nat) (l13 : Nat) (n14 : Int) =>
    T.stores a1 [.slice p11 l12 l13, .int .u32 n14] <|
    T.loads a1 [.slice 80, .int .u32] <| fun (p15 : Option Addr) (l16 : Nat) (l17 : Nat) (n18 : Int) =>
    T.ret (.tuple #[.agg #[.slice p15 l16 l17, .int .u32 n18], .int .i64 (0 : Int)]))))
  (T.loads (a2.add 3) [.int .i64] <| fun (n9 : Int) =>
  cond (n9 != (0 : Int))
   (T.loads (a2.add 3) [.int .i64] <| fun (n10 : Int) =>
   T.stores a1 [.slice none 0 0, .int .u32 (0 : Int)] <|
   T.stable [((a2.add 3), [.int .i64 n10])] <|
   T.loads a1 [.slice 80, .int .u32] <| fun (p11 : Option Addr) (l12 : Nat) (l13 : Nat) (n14 : Int) =>
   T.ret (.tuple #[.agg #[.slice p11 l12 l13, .int .u32 n14], .int .i64 n10]))
   (T.loads a7 [.slice 80, .int .u32] <| fun (p10 : Option Addr) (l11 : Nat) (l12 : Nat) (n13 : Int) =>
   T.stores a1 [.slice p10 l11 l12, .int .u32 n13] <|
   T.loads a1 [.slice 80, .int .u32] <| fun (p14 : Option Addr) (l15 : Nat) (l16 : Nat) (n17 : Int) =>
   T.ret (.tuple #[.agg #[.slice p14 l15 l16, .int .u32 n17], .int .i64 (0 : Int)])))
theorem t_spandrelref4_Parse_eq (pp00 : Option Addr) (ll00 cc00 : Nat) : xfun Tryd.prog [] Tryd.f47 [.slice pp00 ll00 cc00] = t_spandrelref4_Parse pp00 ll00 cc00 := by kernel_rfl

/-- The tree of 83. -/
def t_spandrelref4_reader__sum (p0 : Option Addr) : T :=
 T.new [.slice none 0 0, .int .u32 (0 : Int)] 69 <| fun (a1 : Addr) =>
 T.call Tryd.prog 96 [.pointer p0] false [(true, [.slice 80, .int .u32])] <| fun (p2 : Option Addr) (l3 : Nat) (l4 : Nat) (n5 : Int) =>
 T.new [.slice none 0 0, .int .u32 (0 : Int)] 69 <| fun (a6 : Addr) =>
 T.stores a6 [.slice p2 l3 l4, .int .u32 n5] <|
 T.loop [] [] <| T.join [(false, [.bool])]
  (T.call Tryd.prog 97 [.pointer p0, .string ⟨#[43]⟩] false [(false, [.bool])] <| fun (b7 : Bool) =>
  cond b7
   (T.again 1 [.bool true])
   (T.call Tryd.prog 97 [.pointer p0, .string ⟨#[45]⟩] false [(false, [.bool])] <| fun (b8 : Bool) =>
   T.again 1 [.bool b8])) <| fun (b7 : Bool) =>
 cond b7
  (T.call Tryd.prog 97 [.pointer p0, .string ⟨#[45]⟩] false [(false, [.bool])] <| fun (b8 : Bool) =>
  T.osome p0 <| fun (a9 : Addr) =>
  T.loads (a9.add 1) [.int .i64] <| fun (n10 : Int) =>
  T.osome p0 <| fun (a11 : Addr) =>
  T.stores (a11.add 1) [.int .i64 (IntKind.wrap .i64 (n10 + (1 : Int)))] <|
  T.call Tryd.prog 96 [.pointer p0] false [(true, [.slice 80, .int .u32])] <| fun (p12 : Option Addr) (l13 : Nat) (l14 : Nat) (n15 : Int) =>
  T.new [.slice none 0 0, .int .u32 (0 : Int)] 69 <| fun (a16 : Addr) =>
  T.stores a16 [.slice p12 l13 l14, .int .u32 n15] <|
  T.join []
   (cond b8
    (T.loads a16 [.slice 80, .int .u32] <| fun (p17 : Option Addr) (l18 : Nat) (l19 : Nat) (n20 : Int) =>
    T.call Tryd.prog 98 [.agg #[.slice p17 l18 l19, .int .u32 n20], .int .u32 (4294967295 : Int)] false [(true, [.slice 80, .int .u32])] <| fun (p21 : Option Addr) (l22 : Nat) (l23 : Nat) (n24 : Int) =>
    T.stores a16 [.slice p21 l22 l23, .int .u32 n24] <|
    T.again 1 [])
    (T.again 1 [])) <| T.loads a6 [.slice 80, .int .u32] <| fun (p17 : Option Addr) (l18 : Nat) (l19 : Nat) (n20 : Int) =>
  T.loads a16 [.slice 80, .int .u32] <| fun (p21 : Option Addr) (l22 : Nat) (l23 : Nat) (n24 : Int) =>
  T.call Tryd.prog 99 [.agg #[.slice p17 l18 l19, .int .u32 n20], .agg #[.slice p21 l22 l23, .int .u32 n24]] false [(true, [.slice 80, .int .u32])] <| fun (p25 : Option Addr) (l26 : Nat) (l27 : Nat) (n28 : Int) =>
  T.stores a6 [.slice p25 l26 l27, .int .u32 n28] <|
  T.again 0 [])
  (T.loads a6 [.slice 80, .int .u32] <| fun (p8 : Option Addr) (l9 : Nat) (l10 : Nat) (n11 : Int) =>
  T.stores a1 [.slice p8 l9 l10, .int .u32 n11] <|
  T.loads a1 [.slice 80, .int .u32] <| fun (p12 : Option Addr) (l13 : Nat) (l14 : Nat) (n15 : Int) =>
  T.ret (.agg #[.slice p12 l13 l14, .int .u32 n15]))
theorem t_spandrelref4_reader__sum_eq (p0 : Option Addr) : xfun Tryd.prog [2, 1008] Tryd.f83 [.pointer p0] = t_spandrelref4_reader__sum p0 := by kernel_rfl

/-- The tree of 96. -/
def t_spandrelref4_reader__part (p0 : Option Addr) : T :=
 T.new [.slice none 0 0, .int .u32 (0 : Int)] 69 <| fun (a1 : Addr) =>
 T.call Tryd.prog 111 [.pointer p0] false [(true, [.slice 80, .int .u32])] <| fun (p2 : Option Addr) (l3 : Nat) (l4 : Nat) (n5 : Int) =>
 T.new [.slice none 0 0, .int .u32 (0 : Int)] 69 <| fun (a6 : Addr) =>
 T.stores a6 [.slice p2 l3 l4, .int .u32 n5] <|
 T.loop [] [] <| T.call Tryd.prog 97 [.pointer p0, .string ⟨#[42]⟩] false [(false, [.bool])] <| fun (b7 : Bool) =>
 cond b7
  (T.osome p0 <| fun (a8 : Addr) =>
  T.loads (a8.add 1) [.int .i64] <| fun (n9 : Int) =>
  T.osome p0 <| fun (a10 : Addr) =>
  T.stores (a10.add 1) [.int .i64 (IntKind.wrap .i64 (n9 + (1 : Int)))] <|
  T.call Tryd.prog 111 [.pointer p0] false [(true, [.slice 80, .int .u32])] <| fun (p11 : Option Addr) (l12 : Nat) (l13 : Nat) (n14 : Int) =>
  T.new [.slice none 0 0, .int .u32 (0 : Int)] 69 <| fun (a15 : Addr) =>
  T.stores a15 [.slice p11 l12 l13, .int .u32 n14] <|
  T.osome p0 <| fun (a16 : Addr) =>
  T.loads (a16.add 3) [.int .i64] <| fun (n17 : Int) =>
  cond (n17 != (0 : Int))
   (T.loads a6 [.slice 80, .int .u32] <| fun (p18 : Option Addr) (l19 : Nat) (l20 : Nat) (n21 : Int) =>
   T.stores a1 [.slice p18 l19 l20, .int .u32 n21] <|
   T.loads a1 [.slice 80, .int .u32] <| fun (p22 : Option Addr) (l23 : Nat) (l24 : Nat) (n25 : Int) =>
   T.ret (.agg #[.slice p22 l23 l24, .int .u32 n25]))
   (T.join [(false, [.bool])]
    (T.loads a6 [.slice 80] <| fun (p18 : Option Addr) (l19 : Nat) (l20 : Nat) =>
    cond (decide ((l19 : Int) > (0 : Int)))
     (T.loads a15 [.slice 80] <| fun (p21 : Option Addr) (l22 : Nat) (l23 : Nat) =>
     T.again 1 [.bool (decide ((l22 : Int) > (0 : Int)))])
     (T.again 1 [.bool false])) <| fun (b18 : Bool) =>
   cond b18
    (T.call Tryd.prog 84 [.pointer p0, .int .i64 (21 : Int)] true [] <| T.loads a6 [.slice 80, .int .u32] <| fun (p19 : Option Addr) (l20 : Nat) (l21 : Nat) (n22 : Int) =>
    T.stores a1 [.slice p19 l20 l21, .int .u32 n22] <|
    T.loads a1 [.slice 80, .int .u32] <| fun (p23 : Option Addr) (l24 : Nat) (l25 : Nat) (n26 : Int) =>
    T.ret (.agg #[.slice p23 l24 l25, .int .u32 n26]))
    (T.loads a15 [.slice 80] <| fun (p19 : Option Addr) (l20 : Nat) (l21 : Nat) =>
    cond (decide ((l20 : Int) > (0 : Int)))
     (T.loads a15 [.slice 80, .int .u32] <| fun (p22 : Option Addr) (l23 : Nat) (l24 : Nat) (n25 : Int) =>
     T.loads (a6.add 1) [.int .u32] <| fun (n26 : Int) =>
     T.call Tryd.prog 98 [.agg #[.slice p22 l23 l24, .int .u32 n25], .int .u32 n26] false [(true, [.slice 80, .int .u32])] <| fun (p27 : Option Addr) (l28 : Nat) (l29 : Nat) (n30 : Int) =>
     T.stores a6 [.slice p27 l28 l29, .int .u32 n30] <|
     T.again 0 [])
     (T.loads a6 [.slice 80, .int .u32] <| fun (p22 : Option Addr) (l23 : Nat) (l24 : Nat) (n25 : Int) =>
     T.loads (a15.add 1) [.int .u32] <| fun (n26 : Int) =>
     T.call Tryd.prog 98 [.agg #[.slice p22 l23 l24, .int .u32 n25], .int .u32 n26] false [(true, [.slice 80, .int .u32])] <| fun (p27 : Option Addr) (l28 : Nat) (l29 : Nat) (n30 : Int) =>
     T.stores a6 [.slice p27 l28 l29, .int .u32 n30] <|
     T.again 0 []))))
  (T.loads a6 [.slice 80, .int .u32] <| fun (p8 : Option Addr) (l9 : Nat) (l10 : Nat) (n11 : Int) =>
  T.stores a1 [.slice p8 l9 l10, .int .u32 n11] <|
  T.loads a1 [.slice 80, .int .u32] <| fun (p12 : Option Addr) (l13 : Nat) (l14 : Nat) (n15 : Int) =>
  T.ret (.agg #[.slice p12 l13 l14, .int .u32 n15]))
theorem t_spandrelref4_reader__part_eq (p0 : Option Addr) : xfun Tryd.prog [7] Tryd.f96 [.pointer p0] = t_spandrelref4_reader__part p0 := by kernel_rfl

/-- The tree of 111. -/
def t_spandrelref4_reader__factor (p0 : Option Addr) : T :=
 T.new [.slice none 0 0, .int .u32 (0 : Int)] 69 <| fun (a1 : Addr) =>
 T.loop [(false, [.bool])] [.bool false] <| fun (b2 : Bool) =>
 T.call Tryd.prog 97 [.pointer p0, .string ⟨#[45]⟩] false [(false, [.bool])] <| fun (b3 : Bool) =>
 cond b3
  (T.osome p0 <| fun (a4 : Addr) =>
  T.loads (a4.add 1) [.int .i64] <| fun (n5 : Int) =>
  T.osome p0 <| fun (a6 : Addr) =>
  T.stores (a6.add 1) [.int .i64 (IntKind.wrap .i64 (n5 + (1 : Int)))] <|
  T.again 0 [.bool (!b2)])
  (T.new [.slice none 0 0, .int .u32 (0 : Int)] 69 <| fun (a4 : Addr) =>
  T.join [(false, [.bool])]
   (T.osome p0 <| fun (a5 : Addr) =>
   T.loads (a5.add 3) [.int .i64] <| fun (n6 : Int) =>
   cond (n6 != (0 : Int))
    (T.again 1 [.bool true])
    (T.osome p0 <| fun (a7 : Addr) =>
    T.loads (a7.add 1) [.int .i64] <| fun (n8 : Int) =>
    T.osome p0 <| fun (a9 : Addr) =>
    T.loads a9 [.slice 105] <| fun (p10 : Option Addr) (l11 : Nat) (l12 : Nat) =>
    T.again 1 [.bool (decide (n8 ≥ (l11 : Int)))])) <| fun (b5 : Bool) =>
  cond b5
   (T.call Tryd.prog 84 [.pointer p0, .int .i64 (20 : Int)] true [] <| T.loads a4 [.slice 80, .int .u32] <| fun (p6 : Option Addr) (l7 : Nat) (l8 : Nat) (n9 : Int) =>
   T.stores a1 [.slice p6 l7 l8, .int .u32 n9] <|
   T.loads a1 [.slice 80, .int .u32] <| fun (p10 : Option Addr) (l11 : Nat) (l12 : Nat) (n13 : Int) =>
   T.ret (.agg #[.slice p10 l11 l12, .int .u32 n13]))
   (T.osome p0 <| fun (a6 : Addr) =>
   T.loads a6 [.slice 105] <| fun (p7 : Option Addr) (l8 : Nat) (l9 : Nat) =>
   T.osome p0 <| fun (a10 : Addr) =>
   T.loads (a10.add 1) [.int .i64] <| fun (n11 : Int) =>
   T.need (((0 : Int) ≤ n11) ∧ (n11 < (l8 : Int))) <|
   T.osome p7 <| fun (a12 : Addr) =>
   T.loads (a12.add ((Int.toNat n11) * 4)) [.int .i64, .string, .int .u32, .int .i64] <| fun (n13 : Int) (s14 : ByteArray) (n15 : Int) (n16 : Int) =>
   T.new [.int .i64 (0 : Int), .string ⟨#[]⟩, .int .u32 (0 : Int), .int .i64 (0 : Int)] 105 <| fun (a17 : Addr) =>
   T.stable [((a12.add ((Int.toNat n11) * 4)), [.int .i64 n13, .string s14, .int .u32 n15, .int .i64 n16]), ((a10.add 1), [.int .i64 n11]), (a6, [.slice p7 l8 l9])] <|
   T.stores a17 [.int .i64 n13, .string s14, .int .u32 n15, .int .i64 n16] <|
   T.join []
    (T.loads a17 [.int .i64] <| fun (n18 : Int) =>
    cond (n18 == (2 : Int))
     (T.loads (a17.add 2) [.int .u32] <| fun (n19 : Int) =>
     T.stores (a4.add 1) [.int .u32 n19] <|
     T.again 1 [])
     (T.join [(false, [.bool])]
      (T.loads a17 [.int .i64] <| fun (n19 : Int) =>
      cond (n19 == (1 : Int))
       (T.loads (a17.add 1) [.string] <| fun (s20 : ByteArray) =>
       T.call Tryd.prog 32 [.string s20] false [(false, [.bool])] <| fun (b21 : Bool) =>
       T.again 2 [.bool b21])
       (T.again 2 [.bool false])) <| fun (b19 : Bool) =>
     cond b19
      (T.loads (a17.add 1) [.string] <| fun (s20 : ByteArray) =>
      T.sem Tryd.prog (Instr.buildSlice 67 1 #[(0, .agg #[.string s20, .int .u32 (1 : Int)])]) false [(false, [.slice 0])] <| fun (p21 : Option Addr) (l22 : Nat) (l23 : Nat) =>
      T.stores a4 [.slice p21 l22 l23] <|
      T.again 1 [])
      (T.join [(false, [.bool])]
       (T.loads a17 [.int .i64] <| fun (n20 : Int) =>
       cond (n20 == (3 : Int))
        (T.loads (a17.add 1) [.string] <| fun (s21 : ByteArray) =>
        T.again 2 [.bool ((ByteArray.toList s21) == [({ toBitVec := 40#8 })])])
        (T.again 2 [.bool false])) <| fun (b20 : Bool) =>
      cond b20
       (T.osome p0 <| fun (a21 : Addr) =>
       T.loads (a21.add 2) [.int .i64] <| fun (n22 : Int) =>
       cond (n22 == (32 : Int))
        (T.call Tryd.prog 84 [.pointer p0, .int .i64 (21 : Int)] true [] <| T.loads a4 [.slice 80, .int .u32] <| fun (p23 : Option Addr) (l24 : Nat) (l25 : Nat) (n26 : Int) =>
        T.stores a1 [.slice p23 l24 l25, .int .u32 n26] <|
        T.loads a1 [.slice 80, .int .u32] <| fun (p27 : Option Addr) (l28 : Nat) (l29 : Nat) (n30 : Int) =>
        T.ret (.agg #[.slice p27 l28 l29, .int .u32 n30]))
        (T.osome p0 <| fun (a23 : Addr) =>
        T.loads (a23.add 2) [.int .i64] <| fun (n24 : Int) =>
        T.osome p0 <| fun (a25 : Addr) =>
        T.stores (a25.add 2) [.int .i64 (IntKind.wrap .i64 (n24 + (1 : Int)))] <|
        T.osome p0 <| fun (a26 : Addr) =>
        T.loads (a26.add 1) [.int .i64] <| fun (n27 : Int) =>
        T.osome p0 <| fun (a28 : Addr) =>
        T.stores (a28.add 1) [.int .i64 (IntKind.wrap .i64 (n27 + (1 : Int)))] <|
        T.call Tryd.prog 83 [.pointer p0] false [(true, [.slice 80, .int .u32])] <| fun (p29 : Option Addr) (l30 : Nat) (l31 : Nat) (n32 : Int) =>
        T.stores a4 [.slice p29 l30 l31, .int .u32 n32] <|
        T.osome p0 <| fun (a33 : Addr) =>
        T.loads (a33.add 2) [.int .i64] <| fun (n34 : Int) =>
        T.osome p0 <| fun (a35 : Addr) =>
        T.stores (a35.add 2) [.int .i64 (IntKind.wrap .i64 (n34 - (1 : Int)))] <|
        T.call Tryd.prog 97 [.pointer p0, .string ⟨#[41]⟩] false [(false, [.bool])] <| fun (b36 : Bool) =>
        cond (!b36)
         (T.call Tryd.prog 84 [.pointer p0, .int .i64 (20 : Int)] true [] <| T.loads a4 [.slice 80, .int .u32] <| fun (p37 : Option Addr) (l38 : Nat) (l39 : Nat) (n40 : Int) =>
         T.stores a1 [.slice p37 l38 l39, .int .u32 n40] <|
         T.loads a1 [.slice 80, .int .u32] <| fun (p41 : Option Addr) (l42 : Nat) (l43 : Nat) (n44 : Int) =>
         T.ret (.agg #[.slice p41 l42 l43, .int .u32 n44]))
         (T.again 1 [])))
       (T.call Tryd.prog 84 [.pointer p0, .int .i64 (20 : Int)] true [] <| T.loads a4 [.slice 80, .int .u32] <| fun (p21 : Option Addr) (l22 : Nat) (l23 : Nat) (n24 : Int) =>
       T.stores a1 [.slice p21 l22 l23, .int .u32 n24] <|
       T.loads a1 [.slice 80, .int .u32] <| fun (p25 : Option Addr) (l26 : Nat) (l27 : Nat) (n28 : Int) =>
       T.ret (.agg #[.slice p25 l26 l27, .int .u32 n28]))))) <| T.osome p0 <| fun (a18 : Addr) =>
   T.loads (a18.add 1) [.int .i64] <| fun (n19 : Int) =>
   T.osome p0 <| fun (a20 : Addr) =>
   T.stores (a20.add 1) [.int .i64 (IntKind.wrap .i64 (n19 + (1 : Int)))] <|
   cond b2
    (T.loads a4 [.slice 80, .int .u32] <| fun (p21 : Option Addr) (l22 : Nat) (l23 : Nat) (n24 : Int) =>
    T.call Tryd.prog 98 [.agg #[.slice p21 l22 l23, .int .u32 n24], .int .u32 (4294967295 : Int)] false [(true, [.slice 80, .int .u32])] <| fun (p25 : Option Addr) (l26 : Nat) (l27 : Nat) (n28 : Int) =>
    T.stores a4 [.slice p25 l26 l27, .int .u32 n28] <|
    T.loads a4 [.slice 80, .int .u32] <| fun (p29 : Option Addr) (l30 : Nat) (l31 : Nat) (n32 : Int) =>
    T.stores a1 [.slice p29 l30 l31, .int .u32 n32] <|
    T.loads a1 [.slice 80, .int .u32] <| fun (p33 : Option Addr) (l34 : Nat) (l35 : Nat) (n36 : Int) =>
    T.ret (.agg #[.slice p33 l34 l35, .int .u32 n36]))
    (T.loads a4 [.slice 80, .int .u32] <| fun (p21 : Option Addr) (l22 : Nat) (l23 : Nat) (n24 : Int) =>
    T.stores a1 [.slice p21 l22 l23, .int .u32 n24] <|
    T.loads a1 [.slice 80, .int .u32] <| fun (p25 : Option Addr) (l26 : Nat) (l27 : Nat) (n28 : Int) =>
    T.ret (.agg #[.slice p25 l26 l27, .int .u32 n28]))))
theorem t_spandrelref4_reader__factor_eq (p0 : Option Addr) : xfun Tryd.prog [6, 14, 16, 1027] Tryd.f111 [.pointer p0] = t_spandrelref4_reader__factor p0 := by kernel_rfl

/-- The tree of 42. -/
def t_spandrellaw4_tokens (s0 : ByteArray) : T :=
 T.call Tryd.prog 22 [.string s0] true [(false, [.slice 105]), (false, [.int .i64]), (false, [.int .i64])] <| fun (p1 : Option Addr) (l2 : Nat) (l3 : Nat) (n4 : Int) (n5 : Int) =>
 T.loop [(false, [.slice 0]), (false, [.int .i64])] [.slice none 0 0, .int .i64 (0 : Int)] <| fun (p6 : Option Addr) (l7 : Nat) (l8 : Nat) (n9 : Int) =>
 cond (decide (n9 < (l2 : Int)))
  (T.need (((0 : Int) ≤ n9) ∧ (n9 < (l2 : Int))) <|
  T.osome p1 <| fun (a10 : Addr) =>
  T.loads (a10.add ((Int.toNat n9) * 4)) [.int .i64] <| fun (n11 : Int) =>
  T.need (((0 : Int) ≤ n9) ∧ (n9 < (l2 : Int))) <|
  T.osome p1 <| fun (a12 : Addr) =>
  T.loads ((a12.add ((Int.toNat n9) * 4)).add 1) [.string] <| fun (s13 : ByteArray) =>
  T.need (((0 : Int) ≤ n9) ∧ (n9 < (l2 : Int))) <|
  T.osome p1 <| fun (a14 : Addr) =>
  T.loads ((a14.add ((Int.toNat n9) * 4)).add 2) [.int .u32] <| fun (n15 : Int) =>
  T.need (((0 : Int) ≤ n9) ∧ (n9 < (l2 : Int))) <|
  T.osome p1 <| fun (a16 : Addr) =>
  T.loads ((a16.add ((Int.toNat n9) * 4)).add 3) [.int .i64] <| fun (n17 : Int) =>
  T.sem Tryd.prog (Instr.buildSlice 23 1 #[(0, .agg #[.int .i64 n11, .string s13, .int .u32 n15, .int .i64 n17])]) false [(false, [.slice 0])] <| fun (p18 : Option Addr) (l19 : Nat) (l20 : Nat) =>
  T.stable [(((a16.add ((Int.toNat n9) * 4)).add 3), [.int .i64 n17]), (((a14.add ((Int.toNat n9) * 4)).add 2), [.int .u32 n15]), (((a12.add ((Int.toNat n9) * 4)).add 1), [.string s13]), ((a10.add ((Int.toNat n9) * 4)), [.int .i64 n11])] <|
  T.sem Tryd.prog (Builtin.append_ #[23, 23] 23 #[.slice p6 l7 l8, .slice p18 l19 l20]) false [(false, [.slice 0])] <| fun (p21 : Option Addr) (l22 : Nat) (l23 : Nat) =>
  T.stable [(((a16.add ((Int.toNat n9) * 4)).add 3), [.int .i64 n17]), (((a14.add ((Int.toNat n9) * 4)).add 2), [.int .u32 n15]), (((a12.add ((Int.toNat n9) * 4)).add 1), [.string s13]), ((a10.add ((Int.toNat n9) * 4)), [.int .i64 n11])] <|
  T.again 0 [.slice p21 l22 l23, .int .i64 (IntKind.wrap .i64 (n9 + (1 : Int)))])
  (T.ret (.tuple #[.slice p6 l7 l8, .slice p1 l2 l3, .bool (n5 == (0 : Int))]))
theorem t_spandrellaw4_tokens_eq (s0 : ByteArray) : xfun Tryd.prog [] Tryd.f42 [.string s0] = t_spandrellaw4_tokens s0 := by kernel_rfl

/-- The tree of 60. -/
def t_spandrellaw4_read (s0 : ByteArray) : T :=
 T.new [.slice none 0 0, .int .u32 (0 : Int)] 69 <| fun (a1 : Addr) =>
 T.call Tryd.prog 42 [.string s0] true [(false, [.slice 35]), (false, [.slice 105]), (false, [.bool])] <| fun (p2 : Option Addr) (l3 : Nat) (l4 : Nat) (p5 : Option Addr) (l6 : Nat) (l7 : Nat) (b8 : Bool) =>
 T.call Tryd.prog 46 [.slice p2 l3 l4] true [(true, [.slice 80, .int .u32]), (false, [.int .i64])] <| fun (p9 : Option Addr) (l10 : Nat) (l11 : Nat) (n12 : Int) (n13 : Int) =>
 T.stores a1 [.slice p9 l10 l11, .int .u32 n12] <|
 T.loads a1 [.slice 80, .int .u32] <| fun (p14 : Option Addr) (l15 : Nat) (l16 : Nat) (n17 : Int) =>
 T.ret (.tuple #[.agg #[.slice p14 l15 l16, .int .u32 n17], .int .i64 n13])
theorem t_spandrellaw4_read_eq (s0 : ByteArray) : xfun Tryd.prog [] Tryd.f60 [.string s0] = t_spandrellaw4_read s0 := by kernel_rfl

/-- The tree of 44. -/
def t_spandrellaw4_known  : T :=
 T.call Tryd.prog 60 [.string ⟨#[50, 42, 40, 97, 32, 45, 32, 51, 41, 32, 43, 32, 98, 32, 45, 32, 97]⟩] true [(true, [.slice 80, .int .u32]), (false, [.int .i64])] <| fun (p1 : Option Addr) (l2 : Nat) (l3 : Nat) (n4 : Int) (n5 : Int) =>
 T.new [.slice none 0 0, .int .u32 (0 : Int)] 69 <| fun (a6 : Addr) =>
 T.stores a6 [.slice p1 l2 l3, .int .u32 n4] <|
 T.loads a6 [.slice 80, .int .u32] <| fun (p7 : Option Addr) (l8 : Nat) (l9 : Nat) (n10 : Int) =>
 T.sem Tryd.prog (Instr.makeMap 78 none) false [(false, [.map 0 0])] <| fun (r11 : Option Nat) =>
 T.semU Tryd.prog (Instr.mapUpdate 78 (.map r11) (.string ⟨#[97]⟩) (.int .u32 (10 : Int))) <|
 T.semU Tryd.prog (Instr.mapUpdate 78 (.map r11) (.string ⟨#[98]⟩) (.int .u32 (1 : Int))) <|
 T.call Tryd.prog 51 [.agg #[.slice p7 l8 l9, .int .u32 n10], .map r11] true [(false, [.int .u32]), (false, [.bool])] <| fun (n12 : Int) (b13 : Bool) =>
 cond (n5 == (0 : Int))
  (T.loads a6 [.slice 80, .int .u32] <| fun (p14 : Option Addr) (l15 : Nat) (l16 : Nat) (n17 : Int) =>
  T.call Tryd.prog 61 [.agg #[.slice p14 l15 l16, .int .u32 n17]] false [(false, [.string])] <| fun (s18 : ByteArray) =>
  cond ((ByteArray.toList s18) == [({ toBitVec := 97#8 }), ({ toBitVec := 43#8 }), ({ toBitVec := 98#8 }), ({ toBitVec := 43#8 }), ({ toBitVec := 52#8 }), ({ toBitVec := 50#8 }), ({ toBitVec := 57#8 }), ({ toBitVec := 52#8 }), ({ toBitVec := 57#8 }), ({ toBitVec := 54#8 }), ({ toBitVec := 55#8 }), ({ toBitVec := 50#8 }), ({ toBitVec := 57#8 }), ({ toBitVec := 48#8 })])
   (cond (n12 == (5 : Int))
    (T.ret (.bool b13))
    (T.ret (.bool false)))
   (T.ret (.bool false)))
  (T.ret (.bool false))
theorem t_spandrellaw4_known_eq  : xfun Tryd.prog [] Tryd.f44 [] = t_spandrellaw4_known  := by kernel_rfl

end Go.Sx
