/- Trees of functions, each checked by the kernel against the code. No condition. -/
import Derived.Test.YtpbjlnlekobodaaDoorSxF
import Derived.Test.YtpbjlnlekobodaaDoorProg
import Derived.KernelRfl
set_option linter.unusedVariables false
set_option linter.unusedSimpArgs false
set_option linter.deprecated false
set_option maxRecDepth 100000
namespace Go.Sx
open Go.Proofs
/-- The tree of 15. -/
def t_spandrellaw4_ExprValues (pp00 : Option Addr) (ll00 cc00 : Nat) (n1_0 : Int) (pp10 : Option Addr) (ll10 cc10 : Nat) (n1_1 : Int) (n2 : Int) (pp30 : Option Addr) (ll30 cc30 : Nat) : T :=
 T.new [.slice pp00 ll00 cc00, .int .u32 n1_0] 69 <| fun (a4 : Addr) =>
 T.new [.slice pp10 ll10 cc10, .int .u32 n1_1] 69 <| fun (a5 : Addr) =>
 T.loads a4 [.slice 80, .int .u32] <| fun (p6 : Option Addr) (l7 : Nat) (l8 : Nat) (n9 : Int) =>
 T.call Tryd.prog 50 [.agg #[.slice p6 l7 l8, .int .u32 n9]] false [(false, [.bool])] <| fun (b10 : Bool) =>
 cond (!b10)
  (T.call Tryd.prog 44 [] false [(false, [.bool])] <| fun (b11 : Bool) =>
  T.ret (.bool b11))
  (T.loads a5 [.slice 80, .int .u32] <| fun (p11 : Option Addr) (l12 : Nat) (l13 : Nat) (n14 : Int) =>
  T.call Tryd.prog 50 [.agg #[.slice p11 l12 l13, .int .u32 n14]] false [(false, [.bool])] <| fun (b15 : Bool) =>
  cond (!b15)
   (T.call Tryd.prog 44 [] false [(false, [.bool])] <| fun (b16 : Bool) =>
   T.ret (.bool b16))
   (T.sem Tryd.prog (Instr.makeMap 78 none) false [(false, [.map 0 0])] <| fun (r16 : Option Nat) =>
   T.loads a4 [.slice 80] <| fun (p17 : Option Addr) (l18 : Nat) (l19 : Nat) =>
   T.loads a5 [.slice 80] <| fun (p20 : Option Addr) (l21 : Nat) (l22 : Nat) =>
   T.sem Tryd.prog (Instr.buildSlice 67 0 #[]) false [(false, [.slice 0])] <| fun (p23 : Option Addr) (l24 : Nat) (l25 : Nat) =>
   T.stable [(a5, [.slice p20 l21 l22]), (a4, [.slice p17 l18 l19])] <|
   T.sem Tryd.prog (Builtin.append_ #[67, 67] 67 #[.slice p23 l24 l25, .slice p17 l18 l19]) false [(false, [.slice 0])] <| fun (p26 : Option Addr) (l27 : Nat) (l28 : Nat) =>
   T.stable [(a5, [.slice p20 l21 l22])] <|
   T.sem Tryd.prog (Builtin.append_ #[67, 67] 67 #[.slice p26 l27 l28, .slice p20 l21 l22]) false [(false, [.slice 0])] <| fun (p29 : Option Addr) (l30 : Nat) (l31 : Nat) =>
   T.stable [(a4, [.slice p17 l18 l19])] <|
   T.loop [(false, [.int .i64]), (false, [.int .i64])] [.int .i64 (0 : Int), .int .i64 (0 : Int)] <| fun (n32 : Int) (n33 : Int) =>
   cond (decide (n33 < (l30 : Int)))
    (cond (decide ((ll30 : Int) > (0 : Int)))
     (T.need (((0 : Int) ≤ n33) ∧ (n33 < (l30 : Int))) <|
     T.osome p29 <| fun (a34 : Addr) =>
     T.loads (a34.add ((Int.toNat n33) * 2)) [.string] <| fun (s35 : ByteArray) =>
     T.need ((ll30 : Int) ≠ (0 : Int)) <|
     T.need (((0 : Int) ≤ (Int.tmod n32 (ll30 : Int))) ∧ ((Int.tmod n32 (ll30 : Int)) < (ll30 : Int))) <|
     T.osome pp30 <| fun (a36 : Addr) =>
     T.loads (a36.add ((Int.toNat (Int.tmod n32 (ll30 : Int))) * 1)) [.int .u32] <| fun (n37 : Int) =>
     T.semU Tryd.prog (Instr.mapUpdate 78 (.map r16) (.string s35) (.int .u32 n37)) <|
     T.again 0 [.int .i64 (IntKind.wrap .i64 (n32 + (1 : Int))), .int .i64 (IntKind.wrap .i64 (n33 + (1 : Int)))])
     (T.again 0 [.int .i64 (IntKind.wrap .i64 (n32 + (1 : Int))), .int .i64 (IntKind.wrap .i64 (n33 + (1 : Int)))]))
    (T.loads a4 [.slice 80, .int .u32] <| fun (p34 : Option Addr) (l35 : Nat) (l36 : Nat) (n37 : Int) =>
    T.call Tryd.prog 51 [.agg #[.slice p34 l35 l36, .int .u32 n37], .map r16] true [(false, [.int .u32]), (false, [.bool])] <| fun (n38 : Int) (b39 : Bool) =>
    T.loads a5 [.slice 80, .int .u32] <| fun (p40 : Option Addr) (l41 : Nat) (l42 : Nat) (n43 : Int) =>
    T.call Tryd.prog 51 [.agg #[.slice p40 l41 l42, .int .u32 n43], .map r16] true [(false, [.int .u32]), (false, [.bool])] <| fun (n44 : Int) (b45 : Bool) =>
    T.loads a4 [.slice 80, .int .u32] <| fun (p46 : Option Addr) (l47 : Nat) (l48 : Nat) (n49 : Int) =>
    T.loads a5 [.slice 80, .int .u32] <| fun (p50 : Option Addr) (l51 : Nat) (l52 : Nat) (n53 : Int) =>
    T.call Tryd.prog 52 [.agg #[.slice p46 l47 l48, .int .u32 n49], .agg #[.slice p50 l51 l52, .int .u32 n53]] false [(true, [.slice 80, .int .u32])] <| fun (p54 : Option Addr) (l55 : Nat) (l56 : Nat) (n57 : Int) =>
    T.call Tryd.prog 51 [.agg #[.slice p54 l55 l56, .int .u32 n57], .map r16] true [(false, [.int .u32]), (false, [.bool])] <| fun (n58 : Int) (b59 : Bool) =>
    T.loads a4 [.slice 80, .int .u32] <| fun (p60 : Option Addr) (l61 : Nat) (l62 : Nat) (n63 : Int) =>
    T.call Tryd.prog 53 [.agg #[.slice p60 l61 l62, .int .u32 n63], .int .u32 n2] false [(true, [.slice 80, .int .u32])] <| fun (p64 : Option Addr) (l65 : Nat) (l66 : Nat) (n67 : Int) =>
    T.call Tryd.prog 51 [.agg #[.slice p64 l65 l66, .int .u32 n67], .map r16] true [(false, [.int .u32]), (false, [.bool])] <| fun (n68 : Int) (b69 : Bool) =>
    cond ((ll30 : Int) == (0 : Int))
     (T.loads a4 [.slice 80] <| fun (p70 : Option Addr) (l71 : Nat) (l72 : Nat) =>
     cond (b39 == ((l71 : Int) == (0 : Int)))
      (cond b39
       (T.call Tryd.prog 44 [] false [(false, [.bool])] <| fun (b73 : Bool) =>
       T.ret (.bool b73))
       (cond (n38 == (0 : Int))
        (T.call Tryd.prog 44 [] false [(false, [.bool])] <| fun (b73 : Bool) =>
        T.ret (.bool b73))
        (T.ret (.bool false))))
      (T.ret (.bool false)))
     (T.loads (a4.add 1) [.int .u32] <| fun (n70 : Int) =>
     T.loop [(false, [.int .u32]), (false, [.int .i64])] [.int .u32 n70, .int .i64 (0 : Int)] <| fun (n71 : Int) (n72 : Int) =>
     T.loads a4 [.slice 80] <| fun (p73 : Option Addr) (l74 : Nat) (l75 : Nat) =>
     cond (decide (n72 < (l74 : Int)))
      (T.loads a4 [.slice 80] <| fun (p76 : Option Addr) (l77 : Nat) (l78 : Nat) =>
      T.need (((0 : Int) ≤ n72) ∧ (n72 < (l77 : Int))) <|
      T.osome p76 <| fun (a79 : Addr) =>
      T.loads ((a79.add ((Int.toNat n72) * 2)).add 1) [.int .u32] <| fun (n80 : Int) =>
      T.loads a4 [.slice 80] <| fun (p81 : Option Addr) (l82 : Nat) (l83 : Nat) =>
      T.need (((0 : Int) ≤ n72) ∧ (n72 < (l82 : Int))) <|
      T.osome p81 <| fun (a84 : Addr) =>
      T.loads (a84.add ((Int.toNat n72) * 2)) [.string] <| fun (s85 : ByteArray) =>
      T.sem Tryd.prog (Instr.lookup 78 (.map r16) (.string s85) false) false [(false, [.int .u32])] <| fun (n86 : Int) =>
      T.stable [(a4, [.slice p81 l82 l83]), (((a79.add ((Int.toNat n72) * 2)).add 1), [.int .u32 n80]), (a4, [.slice p76 l77 l78])] <|
      T.again 1 [.int .u32 (IntKind.wrap .u32 (n71 + (IntKind.wrap .u32 (n80 * n86)))), .int .i64 (IntKind.wrap .i64 (n72 + (1 : Int)))])
      (cond b39
       (cond b45
        (cond b59
         (cond b69
          (cond (n38 == n71)
           (cond (n58 == (IntKind.wrap .u32 (n38 + n44)))
            (cond (n68 == (IntKind.wrap .u32 (n38 * n2)))
             (T.call Tryd.prog 44 [] false [(false, [.bool])] <| fun (b76 : Bool) =>
             T.ret (.bool b76))
             (T.ret (.bool false)))
            (T.ret (.bool false)))
           (T.ret (.bool false)))
          (T.ret (.bool false)))
         (T.ret (.bool false)))
        (T.ret (.bool false)))
       (T.ret (.bool false)))))))
theorem t_spandrellaw4_ExprValues_eq (pp00 : Option Addr) (ll00 cc00 : Nat) (n1_0 : Int) (pp10 : Option Addr) (ll10 cc10 : Nat) (n1_1 : Int) (n2 : Int) (pp30 : Option Addr) (ll30 cc30 : Nat) : xfun Tryd.prog [] Tryd.f15 [.agg #[.slice pp00 ll00 cc00, .int .u32 n1_0], .agg #[.slice pp10 ll10 cc10, .int .u32 n1_1], .int .u32 n2, .slice pp30 ll30 cc30] = t_spandrellaw4_ExprValues pp00 ll00 cc00 n1_0 pp10 ll10 cc10 n1_1 n2 pp30 ll30 cc30 := by kernel_rfl

/-- The tree of 18. -/
def t_spandrellaw4_ExprBack (pp00 : Option Addr) (ll00 cc00 : Nat) (n1_0 : Int) : T :=
 T.new [.slice pp00 ll00 cc00, .int .u32 n1_0] 69 <| fun (a1 : Addr) =>
 T.loads a1 [.slice 80, .int .u32] <| fun (p2 : Option Addr) (l3 : Nat) (l4 : Nat) (n5 : Int) =>
 T.call Tryd.prog 63 [.agg #[.slice p2 l3 l4, .int .u32 n5]] false [(false, [.bool])] <| fun (b6 : Bool) =>
 cond (!b6)
  (T.call Tryd.prog 44 [] false [(false, [.bool])] <| fun (b7 : Bool) =>
  T.ret (.bool b7))
  (T.loads a1 [.slice 80] <| fun (p7 : Option Addr) (l8 : Nat) (l9 : Nat) =>
  cond (decide ((l8 : Int) > (200 : Int)))
   (T.call Tryd.prog 44 [] false [(false, [.bool])] <| fun (b10 : Bool) =>
   T.ret (.bool b10))
   (T.loads a1 [.slice 80, .int .u32] <| fun (p10 : Option Addr) (l11 : Nat) (l12 : Nat) (n13 : Int) =>
   T.call Tryd.prog 61 [.agg #[.slice p10 l11 l12, .int .u32 n13]] false [(false, [.string])] <| fun (s14 : ByteArray) =>
   T.call Tryd.prog 42 [.string s14] true [(false, [.slice 35]), (false, [.slice 105]), (false, [.bool])] <| fun (p15 : Option Addr) (l16 : Nat) (l17 : Nat) (p18 : Option Addr) (l19 : Nat) (l20 : Nat) (b21 : Bool) =>
   T.call Tryd.prog 46 [.slice p15 l16 l17] true [(true, [.slice 80, .int .u32]), (false, [.int .i64])] <| fun (p22 : Option Addr) (l23 : Nat) (l24 : Nat) (n25 : Int) (n26 : Int) =>
   T.new [.slice none 0 0, .int .u32 (0 : Int)] 69 <| fun (a27 : Addr) =>
   T.stores a27 [.slice p22 l23 l24, .int .u32 n25] <|
   cond b21
    (cond (n26 == (0 : Int))
     (T.loads a1 [.slice 80, .int .u32] <| fun (p28 : Option Addr) (l29 : Nat) (l30 : Nat) (n31 : Int) =>
     T.loads a27 [.slice 80, .int .u32] <| fun (p32 : Option Addr) (l33 : Nat) (l34 : Nat) (n35 : Int) =>
     T.call Tryd.prog 64 [.agg #[.slice p28 l29 l30, .int .u32 n31], .agg #[.slice p32 l33 l34, .int .u32 n35]] false [(false, [.bool])] <| fun (b36 : Bool) =>
     cond b36
      (T.call Tryd.prog 44 [] false [(false, [.bool])] <| fun (b37 : Bool) =>
      T.ret (.bool b37))
      (T.ret (.bool false)))
     (T.ret (.bool false)))
    (T.ret (.bool false))))
theorem t_spandrellaw4_ExprBack_eq (pp00 : Option Addr) (ll00 cc00 : Nat) (n1_0 : Int) : xfun Tryd.prog [] Tryd.f18 [.agg #[.slice pp00 ll00 cc00, .int .u32 n1_0]] = t_spandrellaw4_ExprBack pp00 ll00 cc00 n1_0 := by kernel_rfl

/-- The tree of 16. -/
def t_spandrellaw4_ExprKept (pp00 : Option Addr) (ll00 cc00 : Nat) (n1_0 : Int) (pp10 : Option Addr) (ll10 cc10 : Nat) (n1_1 : Int) (s2 : ByteArray) : T :=
 T.new [.slice pp00 ll00 cc00, .int .u32 n1_0] 69 <| fun (a3 : Addr) =>
 T.new [.slice pp10 ll10 cc10, .int .u32 n1_1] 69 <| fun (a4 : Addr) =>
 T.loads a3 [.slice 80, .int .u32] <| fun (p5 : Option Addr) (l6 : Nat) (l7 : Nat) (n8 : Int) =>
 T.call Tryd.prog 50 [.agg #[.slice p5 l6 l7, .int .u32 n8]] false [(false, [.bool])] <| fun (b9 : Bool) =>
 cond (!b9)
  (T.call Tryd.prog 44 [] false [(false, [.bool])] <| fun (b10 : Bool) =>
  T.ret (.bool b10))
  (T.loads a4 [.slice 80, .int .u32] <| fun (p10 : Option Addr) (l11 : Nat) (l12 : Nat) (n13 : Int) =>
  T.call Tryd.prog 50 [.agg #[.slice p10 l11 l12, .int .u32 n13]] false [(false, [.bool])] <| fun (b14 : Bool) =>
  cond (!b14)
   (T.call Tryd.prog 44 [] false [(false, [.bool])] <| fun (b15 : Bool) =>
   T.ret (.bool b15))
   (T.loads a3 [.slice 80] <| fun (p15 : Option Addr) (l16 : Nat) (l17 : Nat) =>
   T.call Tryd.prog 54 [.slice p15 l16 l17, .agg #[.string ⟨#[98, 101, 104, 105, 110, 100]⟩, .int .u32 (0 : Int)]] false [(false, [.slice 80])] <| fun (p18 : Option Addr) (l19 : Nat) (l20 : Nat) =>
   T.loads a3 [.slice 80] <| fun (p21 : Option Addr) (l22 : Nat) (l23 : Nat) =>
   T.need (((0 : Int) ≤ (0 : Int)) ∧ (((0 : Int) ≤ (l22 : Int)) ∧ ((l22 : Int) ≤ (l20 : Int)))) <|
   T.loads (a3.add 1) [.int .u32] <| fun (n24 : Int) =>
   T.new [.slice none 0 0, .int .u32 (0 : Int)] 69 <| fun (a25 : Addr) =>
   T.stable [((a3.add 1), [.int .u32 n24]), (a3, [.slice p21 l22 l23])] <|
   T.stores a25 [.slice (if (l20 = 0) then p18 else (Option.map (fun a => Addr.add a 0) p18)) ((Int.toNat (l22 : Int)) - 0) (l20 - 0), .int .u32 n24] <|
   T.new [.slice none 0 0, .slice none 0 0, .int .i64 (0 : Int), .bool false] 89 <| fun (a26 : Addr) =>
   T.call Tryd.prog 43 [.string s2, .int .i64 (200 : Int)] false [(false, [.string])] <| fun (s27 : ByteArray) =>
   T.call Tryd.prog 42 [.string s27] true [(false, [.slice 35]), (false, [.slice 105]), (false, [.bool])] <| fun (p28 : Option Addr) (l29 : Nat) (l30 : Nat) (p31 : Option Addr) (l32 : Nat) (l33 : Nat) (b34 : Bool) =>
   T.loop [(false, [.int .i64])] [.int .i64 (0 : Int)] <| fun (n35 : Int) =>
   cond (decide (n35 < (2 : Int)))
    (T.loads a25 [.slice 80, .int .u32] <| fun (p36 : Option Addr) (l37 : Nat) (l38 : Nat) (n39 : Int) =>
    T.loads a4 [.slice 80, .int .u32] <| fun (p40 : Option Addr) (l41 : Nat) (l42 : Nat) (n43 : Int) =>
    T.call Tryd.prog 52 [.agg #[.slice p36 l37 l38, .int .u32 n39], .agg #[.slice p40 l41 l42, .int .u32 n43]] false [(true, [.slice 80, .int .u32])] <| fun (p44 : Option Addr) (l45 : Nat) (l46 : Nat) (n47 : Int) =>
    T.call Tryd.prog 55 [.pointer (some a26), .slice p44 l45 l46] true [] <| T.loads a25 [.slice 80, .int .u32] <| fun (p48 : Option Addr) (l49 : Nat) (l50 : Nat) (n51 : Int) =>
    T.call Tryd.prog 52 [.agg #[.slice p48 l49 l50, .int .u32 n51], .agg #[.slice none 0 0, .int .u32 (0 : Int)]] false [(true, [.slice 80, .int .u32])] <| fun (p52 : Option Addr) (l53 : Nat) (l54 : Nat) (n55 : Int) =>
    T.call Tryd.prog 55 [.pointer (some a26), .slice p52 l53 l54] true [] <| T.loads a25 [.slice 80, .int .u32] <| fun (p56 : Option Addr) (l57 : Nat) (l58 : Nat) (n59 : Int) =>
    T.call Tryd.prog 53 [.agg #[.slice p56 l57 l58, .int .u32 n59], .int .u32 (1 : Int)] false [(true, [.slice 80, .int .u32])] <| fun (p60 : Option Addr) (l61 : Nat) (l62 : Nat) (n63 : Int) =>
    T.call Tryd.prog 55 [.pointer (some a26), .slice p60 l61 l62] true [] <| T.call Tryd.prog 56 [.string ⟨#[97]⟩] false [(true, [.slice 80, .int .u32])] <| fun (p64 : Option Addr) (l65 : Nat) (l66 : Nat) (n67 : Int) =>
    T.call Tryd.prog 55 [.pointer (some a26), .slice p64 l65 l66] true [] <| T.call Tryd.prog 46 [.slice p28 l29 l30] true [(true, [.slice 80, .int .u32]), (false, [.int .i64])] <| fun (p68 : Option Addr) (l69 : Nat) (l70 : Nat) (n71 : Int) (n72 : Int) =>
    T.new [.slice none 0 0, .int .u32 (0 : Int)] 69 <| fun (a73 : Addr) =>
    T.stores a73 [.slice p68 l69 l70, .int .u32 n71] <|
    T.loads a73 [.slice 80] <| fun (p74 : Option Addr) (l75 : Nat) (l76 : Nat) =>
    T.call Tryd.prog 55 [.pointer (some a26), .slice p74 l75 l76] true [] <| T.again 0 [.int .i64 (IntKind.wrap .i64 (n35 + (1 : Int)))])
    (T.call Tryd.prog 57 [.pointer (some a26), .func (Fn.func 58) #[] #[]] false [(false, [.bool])] <| fun (b36 : Bool) =>
    cond b36
     (T.loads a3 [.slice 80] <| fun (p37 : Option Addr) (l38 : Nat) (l39 : Nat) =>
     T.call Tryd.prog 59 [.slice p18 l19 l20, .slice p37 l38 l39, .agg #[.string ⟨#[98, 101, 104, 105, 110, 100]⟩, .int .u32 (0 : Int)]] false [(false, [.bool])] <| fun (b40 : Bool) =>
     cond b40
      (T.call Tryd.prog 44 [] false [(false, [.bool])] <| fun (b41 : Bool) =>
      T.ret (.bool b41))
      (T.ret (.bool false)))
     (T.ret (.bool false)))))
theorem t_spandrellaw4_ExprKept_eq (pp00 : Option Addr) (ll00 cc00 : Nat) (n1_0 : Int) (pp10 : Option Addr) (ll10 cc10 : Nat) (n1_1 : Int) (s2 : ByteArray) : xfun Tryd.prog [] Tryd.f16 [.agg #[.slice pp00 ll00 cc00, .int .u32 n1_0], .agg #[.slice pp10 ll10 cc10, .int .u32 n1_1], .string s2] = t_spandrellaw4_ExprKept pp00 ll00 cc00 n1_0 pp10 ll10 cc10 n1_1 s2 := by kernel_rfl

/-- The tree of 54. -/
def t_spandrelbook_Roomy_api_Term_ (pp00 : Option Addr) (ll00 cc00 : Nat) (s1 : ByteArray) (n1_1 : Int) : T :=
 T.new [.string s1, .int .u32 n1_1] 80 <| fun (a2 : Addr) =>
 T.sem Tryd.prog (Instr.makeSlice 67 (.int .i64 (IntKind.wrap .i64 ((ll00 : Int) + (80 : Int)))) (.int .i64 (IntKind.wrap .i64 ((ll00 : Int) + (80 : Int))))) false [(false, [.slice 0])] <| fun (p3 : Option Addr) (l4 : Nat) (l5 : Nat) =>
 T.sem Tryd.prog (Builtin.copy_ #[67, 67] 3 #[.slice p3 l4 l5, .slice pp00 ll00 cc00]) false [(false, [.int .i64])] <| fun (n6 : Int) =>
 T.loop [(false, [.int .i64])] [.int .i64 (ll00 : Int)] <| fun (n7 : Int) =>
 cond (decide (n7 < (l4 : Int)))
  (T.loads a2 [.string, .int .u32] <| fun (s8 : ByteArray) (n9 : Int) =>
  T.need (((0 : Int) ≤ n7) ∧ (n7 < (l4 : Int))) <|
  T.osome p3 <| fun (a10 : Addr) =>
  T.stores (a10.add ((Int.toNat n7) * 2)) [.string s8, .int .u32 n9] <|
  T.again 0 [.int .i64 (IntKind.wrap .i64 (n7 + (1 : Int)))])
  (T.ret (.slice p3 l4 l5))
theorem t_spandrelbook_Roomy_api_Term__eq (pp00 : Option Addr) (ll00 cc00 : Nat) (s1 : ByteArray) (n1_1 : Int) : xfun Tryd.prog [] Tryd.f54 [.slice pp00 ll00 cc00, .agg #[.string s1, .int .u32 n1_1]] = t_spandrelbook_Roomy_api_Term_ pp00 ll00 cc00 s1 n1_1 := by kernel_rfl

/-- The tree of 59. -/
def t_spandrelbook_Intact_api_Term_ (pp00 : Option Addr) (ll00 cc00 : Nat) (pp10 : Option Addr) (ll10 cc10 : Nat) (s2 : ByteArray) (n1_2 : Int) : T :=
 T.new [.string s2, .int .u32 n1_2] 80 <| fun (a3 : Addr) =>
 T.join [(false, [.bool])]
  (cond ((ll00 : Int) != (IntKind.wrap .i64 ((ll10 : Int) + (80 : Int))))
   (T.again 0 [.bool true])
   (T.need (((0 : Int) ≤ (0 : Int)) ∧ (((0 : Int) ≤ (ll10 : Int)) ∧ ((ll10 : Int) ≤ (cc00 : Int)))) <|
   T.call Tryd.prog 86 [.slice (if (cc00 = 0) then pp00 else (Option.map (fun a => Addr.add a 0) pp00)) ((Int.toNat (ll10 : Int)) - 0) (cc00 - 0), .slice pp10 ll10 cc10] false [(false, [.bool])] <| fun (b4 : Bool) =>
   T.again 0 [.bool (!b4)])) <| fun (b4 : Bool) =>
 cond b4
  (T.ret (.bool false))
  (T.loop [(false, [.bool]), (false, [.int .i64])] [.bool false, .int .i64 (ll10 : Int)] <| fun (b5 : Bool) (n6 : Int) =>
  cond (decide (n6 < (ll00 : Int)))
   (T.need (((0 : Int) ≤ n6) ∧ (n6 < (ll00 : Int))) <|
   T.osome pp00 <| fun (a7 : Addr) =>
   T.loads (a7.add ((Int.toNat n6) * 2)) [.string, .int .u32] <| fun (s8 : ByteArray) (n9 : Int) =>
   T.loads a3 [.string, .int .u32] <| fun (s10 : ByteArray) (n11 : Int) =>
   T.sem Tryd.prog (Sx.cmpS (BinOp.neq) 80 (Operand.tmp 34) (Operand.tmp 35) (.agg #[.string s8, .int .u32 n9]) (.agg #[.string s10, .int .u32 n11])) false [(false, [.bool])] <| fun (b12 : Bool) =>
   cond b12
    (T.ret (.bool false))
    (T.again 0 [.bool b5, .int .i64 (IntKind.wrap .i64 (n6 + (1 : Int)))]))
   (T.ret (.bool true)))
theorem t_spandrelbook_Intact_api_Term__eq (pp00 : Option Addr) (ll00 cc00 : Nat) (pp10 : Option Addr) (ll10 cc10 : Nat) (s2 : ByteArray) (n1_2 : Int) : xfun Tryd.prog [1] Tryd.f59 [.slice pp00 ll00 cc00, .slice pp10 ll10 cc10, .agg #[.string s2, .int .u32 n1_2]] = t_spandrelbook_Intact_api_Term_ pp00 ll00 cc00 pp10 ll10 cc10 s2 n1_2 := by kernel_rfl

end Go.Sx
