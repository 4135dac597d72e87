/- Trees of functions, each checked by the kernel against the code. No condition. -/
import Derived.Test.YtpbjlnlekobodaaSxF
import Derived.Test.YtpbjlnlekobodaaProg
import Derived.KernelRfl
set_option linter.unusedVariables false
set_option linter.unusedSimpArgs false
set_option linter.deprecated false
set_option maxRecDepth 100000
namespace Go.Sx
open Go.Proofs
/-- The tree of 13, at some arguments. -/
def t_spandrelkeep_CopyUnit_eqs (p : Option Addr) (l : Nat) (c : Nat) : T :=
 T.new [.slice none 0 0, .slice none 0 0, .slice p l c, .slice none 0 0] 47 <| fun (a1 : Addr) =>
 T.new [.slice none 0 0, .slice none 0 0, .slice none 0 0, .slice none 0 0] 47 <| fun (a2 : Addr) =>
 T.loads a1 [.slice 94] <| fun (p3 : Option Addr) (l4 : Nat) (l5 : Nat) =>
 T.loads (a1.add 1) [.slice 94] <| fun (p6 : Option Addr) (l7 : Nat) (l8 : Nat) =>
 T.loads (a1.add 3) [.slice 9] <| fun (p9 : Option Addr) (l10 : Nat) (l11 : Nat) =>
 T.all [ (T.call Try.prog 31 [.slice p3 l4 l5] false [(false, [.slice 94])] <| fun (p12 : Option Addr) (l13 : Nat) (l14 : Nat) =>
  T.stable [((a1.add 3), [.slice p9 l10 l11]), ((a1.add 1), [.slice p6 l7 l8])] <|
  T.all [ (T.call Try.prog 31 [.slice p6 l7 l8] false [(false, [.slice 94])] <| fun (p15 : Option Addr) (l16 : Nat) (l17 : Nat) =>
   T.stable [((a1.add 3), [.slice p9 l10 l11]), (a1, [.slice p3 l4 l5])] <|
   T.all [ (T.sem Try.prog (Instr.buildSlice 29 0 #[]) false [(false, [.slice 0])] <| fun (p18 : Option Addr) (l19 : Nat) (l20 : Nat) =>
    T.stable [((a1.add 3), [.slice p9 l10 l11]), ((a1.add 1), [.slice p6 l7 l8]), (a1, [.slice p3 l4 l5])] <|
    T.all [ (T.sem Try.prog (Builtin.append_ #[29, 29] 29 #[.slice p18 l19 l20, .slice p9 l10 l11]) false [(false, [.slice 0])] <| fun (p21 : Option Addr) (l22 : Nat) (l23 : Nat) =>
     T.stable [((a1.add 1), [.slice p6 l7 l8]), (a1, [.slice p3 l4 l5])] <|
     T.new [.slice none 0 0, .slice none 0 0, .slice none 0 0, .slice none 0 0] 47 <| fun (a24 : Addr) =>
     T.stable [((a1.add 3), [.slice p9 l10 l11]), ((a1.add 1), [.slice p6 l7 l8]), (a1, [.slice p3 l4 l5])] <|
     T.stores a24 [.slice p12 l13 l14, .slice p15 l16 l17, .slice none 0 0, .slice p21 l22 l23] <|
     T.loop [(false, [.int .i64])] [.int .i64 (0 : Int)] <| fun (n25 : Int) =>
     T.loads (a1.add 2) [.slice 38] <| fun (p26 : Option Addr) (l27 : Nat) (l28 : Nat) =>
     cond (decide (n25 < (l27 : Int)))
      (T.loads (a24.add 2) [.slice 38] <| fun (p29 : Option Addr) (l30 : Nat) (l31 : Nat) =>
      T.loads (a1.add 2) [.slice 38] <| fun (p32 : Option Addr) (l33 : Nat) (l34 : Nat) =>
      T.need (((0 : Int) ≤ n25) ∧ (n25 < (l33 : Int))) <|
      T.osome p32 <| fun (a35 : Addr) =>
      T.loads (a35.add ((Int.toNat n25) * 3)) [.string] <| fun (s36 : ByteArray) =>
      T.loads (a1.add 2) [.slice 38] <| fun (p37 : Option Addr) (l38 : Nat) (l39 : Nat) =>
      T.need (((0 : Int) ≤ n25) ∧ (n25 < (l38 : Int))) <|
      T.osome p37 <| fun (a40 : Addr) =>
      T.loads ((a40.add ((Int.toNat n25) * 3)).add 1) [.slice 40, .int .u32] <| fun (p41 : Option Addr) (l42 : Nat) (l43 : Nat) (n44 : Int) =>
      T.call Try.prog 32 [.agg #[.slice p41 l42 l43, .int .u32 n44]] false [(true, [.slice 40, .int .u32])] <| fun (p45 : Option Addr) (l46 : Nat) (l47 : Nat) (n48 : Int) =>
      T.stable [((a1.add 2), [.slice p37 l38 l39]), ((a35.add ((Int.toNat n25) * 3)), [.string s36]), ((a1.add 2), [.slice p32 l33 l34]), ((a24.add 2), [.slice p29 l30 l31])] <|
      T.sem Try.prog (Instr.buildSlice 22 1 #[(0, .agg #[.string s36, .slice p45 l46 l47, .int .u32 n48])]) false [(false, [.slice 0])] <| fun (p49 : Option Addr) (l50 : Nat) (l51 : Nat) =>
      T.stable [(((a40.add ((Int.toNat n25) * 3)).add 1), [.slice p41 l42 l43, .int .u32 n44]), ((a1.add 2), [.slice p37 l38 l39]), ((a35.add ((Int.toNat n25) * 3)), [.string s36]), ((a1.add 2), [.slice p32 l33 l34]), ((a24.add 2), [.slice p29 l30 l31])] <|
      T.sem Try.prog (Builtin.append_ #[22, 22] 22 #[.slice p29 l30 l31, .slice p49 l50 l51]) false [(false, [.slice 0])] <| fun (p52 : Option Addr) (l53 : Nat) (l54 : Nat) =>
      T.stable [(((a40.add ((Int.toNat n25) * 3)).add 1), [.slice p41 l42 l43, .int .u32 n44]), ((a1.add 2), [.slice p37 l38 l39]), ((a35.add ((Int.toNat n25) * 3)), [.string s36]), ((a1.add 2), [.slice p32 l33 l34])] <|
      T.stores (a24.add 2) [.slice p52 l53 l54] <|
      T.again 0 [.int .i64 (IntKind.wrap .i64 (n25 + (1 : Int)))])
      (T.loads a24 [.slice 94, .slice 94, .slice 38, .slice 9] <| fun (p29 : Option Addr) (l30 : Nat) (l31 : Nat) (p32 : Option Addr) (l33 : Nat) (l34 : Nat) (p35 : Option Addr) (l36 : Nat) (l37 : Nat) (p38 : Option Addr) (l39 : Nat) (l40 : Nat) =>
      T.stores a2 [.slice p29 l30 l31, .slice p32 l33 l34, .slice p35 l36 l37, .slice p38 l39 l40] <|
      T.loads a2 [.slice 94, .slice 94, .slice 38, .slice 9] <| fun (p41 : Option Addr) (l42 : Nat) (l43 : Nat) (p44 : Option Addr) (l45 : Nat) (l46 : Nat) (p47 : Option Addr) (l48 : Nat) (l49 : Nat) (p50 : Option Addr) (l51 : Nat) (l52 : Nat) =>
      T.ret (.agg #[.slice p41 l42 l43, .slice p44 l45 l46, .slice p47 l48 l49, .slice p50 l51 l52]))),
     (T.new [.slice none 0 0, .slice none 0 0, .slice none 0 0, .slice none 0 0] 47 <| fun (a21 : Addr) =>
     T.stable [((a1.add 3), [.slice p9 l10 l11]), ((a1.add 1), [.slice p6 l7 l8]), (a1, [.slice p3 l4 l5])] <|
     T.sem Try.prog (Builtin.append_ #[29, 29] 29 #[.slice p18 l19 l20, .slice p9 l10 l11]) false [(false, [.slice 0])] <| fun (p22 : Option Addr) (l23 : Nat) (l24 : Nat) =>
     T.stable [((a1.add 1), [.slice p6 l7 l8]), (a1, [.slice p3 l4 l5])] <|
     T.stores a21 [.slice p12 l13 l14, .slice p15 l16 l17, .slice none 0 0, .slice p22 l23 l24] <|
     T.loop [(false, [.int .i64])] [.int .i64 (0 : Int)] <| fun (n25 : Int) =>
     T.loads (a1.add 2) [.slice 38] <| fun (p26 : Option Addr) (l27 : Nat) (l28 : Nat) =>
     cond (decide (n25 < (l27 : Int)))
      (T.loads (a21.add 2) [.slice 38] <| fun (p29 : Option Addr) (l30 : Nat) (l31 : Nat) =>
      T.loads (a1.add 2) [.slice 38] <| fun (p32 : Option Addr) (l33 : Nat) (l34 : Nat) =>
      T.need (((0 : Int) ≤ n25) ∧ (n25 < (l33 : Int))) <|
      T.osome p32 <| fun (a35 : Addr) =>
      T.loads (a35.add ((Int.toNat n25) * 3)) [.string] <| fun (s36 : ByteArray) =>
      T.loads (a1.add 2) [.slice 38] <| fun (p37 : Option Addr) (l38 : Nat) (l39 : Nat) =>
      T.need (((0 : Int) ≤ n25) ∧ (n25 < (l38 : Int))) <|
      T.osome p37 <| fun (a40 : Addr) =>
      T.loads ((a40.add ((Int.toNat n25) * 3)).add 1) [.slice 40, .int .u32] <| fun (p41 : Option Addr) (l42 : Nat) (l43 : Nat) (n44 : Int) =>
      T.call Try.prog 32 [.agg #[.slice p41 l42 l43, .int .u32 n44]] false [(true, [.slice 40, .int .u32])] <| fun (p45 : Option Addr) (l46 : Nat) (l47 : Nat) (n48 : Int) =>
      T.stable [((a1.add 2), [.slice p37 l38 l39]), ((a35.add ((Int.toNat n25) * 3)), [.string s36]), ((a1.add 2), [.slice p32 l33 l34]), ((a21.add 2), [.slice p29 l30 l31])] <|
      T.sem Try.prog (Instr.buildSlice 22 1 #[(0, .agg #[.string s36, .slice p45 l46 l47, .int .u32 n48])]) false [(false, [.slice 0])] <| fun (p49 : Option Addr) (l50 : Nat) (l51 : Nat) =>
      T.stable [(((a40.add ((Int.toNat n25) * 3)).add 1), [.slice p41 l42 l43, .int .u32 n44]), ((a1.add 2), [.slice p37 l38 l39]), ((a35.add ((Int.toNat n25) * 3)), [.string s36]), ((a1.add 2), [.slice p32 l33 l34]), ((a21.add 2), [.slice p29 l30 l31])] <|
      T.sem Try.prog (Builtin.append_ #[22, 22] 22 #[.slice p29 l30 l31, .slice p49 l50 l51]) false [(false, [.slice 0])] <| fun (p52 : Option Addr) (l53 : Nat) (l54 : Nat) =>
      T.stable [(((a40.add ((Int.toNat n25) * 3)).add 1), [.slice p41 l42 l43, .int .u32 n44]), ((a1.add 2), [.slice p37 l38 l39]), ((a35.add ((Int.toNat n25) * 3)), [.string s36]), ((a1.add 2), [.slice p32 l33 l34])] <|
      T.stores (a21.add 2) [.slice p52 l53 l54] <|
      T.again 0 [.int .i64 (IntKind.wrap .i64 (n25 + (1 : Int)))])
      (T.loads a21 [.slice 94, .slice 94, .slice 38, .slice 9] <| fun (p29 : Option Addr) (l30 : Nat) (l31 : Nat) (p32 : Option Addr) (l33 : Nat) (l34 : Nat) (p35 : Option Addr) (l36 : Nat) (l37 : Nat) (p38 : Option Addr) (l39 : Nat) (l40 : Nat) =>
      T.stores a2 [.slice p29 l30 l31, .slice p32 l33 l34, .slice p35 l36 l37, .slice p38 l39 l40] <|
      T.loads a2 [.slice 94, .slice 94, .slice 38, .slice 9] <| fun (p41 : Option Addr) (l42 : Nat) (l43 : Nat) (p44 : Option Addr) (l45 : Nat) (l46 : Nat) (p47 : Option Addr) (l48 : Nat) (l49 : Nat) (p50 : Option Addr) (l51 : Nat) (l52 : Nat) =>
      T.ret (.agg #[.slice p41 l42 l43, .slice p44 l45 l46, .slice p47 l48 l49, .slice p50 l51 l52])))]),
    (T.new [.slice none 0 0, .slice none 0 0, .slice none 0 0, .slice none 0 0] 47 <| fun (a18 : Addr) =>
    T.stable [((a1.add 3), [.slice p9 l10 l11]), ((a1.add 1), [.slice p6 l7 l8]), (a1, [.slice p3 l4 l5])] <|
    T.sem Try.prog (Instr.buildSlice 29 0 #[]) false [(false, [.slice 0])] <| fun (p19 : Option Addr) (l20 : Nat) (l21 : Nat) =>
    T.stable [((a1.add 3), [.slice p9 l10 l11]), ((a1.add 1), [.slice p6 l7 l8]), (a1, [.slice p3 l4 l5])] <|
    T.sem Try.prog (Builtin.append_ #[29, 29] 29 #[.slice p19 l20 l21, .slice p9 l10 l11]) false [(false, [.slice 0])] <| fun (p22 : Option Addr) (l23 : Nat) (l24 : Nat) =>
    T.stable [((a1.add 1), [.slice p6 l7 l8]), (a1, [.slice p3 l4 l5])] <|
    T.stores a18 [.slice p12 l13 l14, .slice p15 l16 l17, .slice none 0 0, .slice p22 l23 l24] <|
    T.loop [(false, [.int .i64])] [.int .i64 (0 : Int)] <| fun (n25 : Int) =>
    T.loads (a1.add 2) [.slice 38] <| fun (p26 : Option Addr) (l27 : Nat) (l28 : Nat) =>
    cond (decide (n25 < (l27 : Int)))
     (T.loads (a18.add 2) [.slice 38] <| fun (p29 : Option Addr) (l30 : Nat) (l31 : Nat) =>
     T.loads (a1.add 2) [.slice 38] <| fun (p32 : Option Addr) (l33 : Nat) (l34 : Nat) =>
     T.need (((0 : Int) ≤ n25) ∧ (n25 < (l33 : Int))) <|
     T.osome p32 <| fun (a35 : Addr) =>
     T.loads (a35.add ((Int.toNat n25) * 3)) [.string] <| fun (s36 : ByteArray) =>
     T.loads (a1.add 2) [.slice 38] <| fun (p37 : Option Addr) (l38 : Nat) (l39 : Nat) =>
     T.need (((0 : Int) ≤ n25) ∧ (n25 < (l38 : Int))) <|
     T.osome p37 <| fun (a40 : Addr) =>
     T.loads ((a40.add ((Int.toNat n25) * 3)).add 1) [.slice 40, .int .u32] <| fun (p41 : Option Addr) (l42 : Nat) (l43 : Nat) (n44 : Int) =>
     T.call Try.prog 32 [.agg #[.slice p41 l42 l43, .int .u32 n44]] false [(true, [.slice 40, .int .u32])] <| fun (p45 : Option Addr) (l46 : Nat) (l47 : Nat) (n48 : Int) =>
     T.stable [((a1.add 2), [.slice p37 l38 l39]), ((a35.add ((Int.toNat n25) * 3)), [.string s36]), ((a1.add 2), [.slice p32 l33 l34]), ((a18.add 2), [.slice p29 l30 l31])] <|
     T.sem Try.prog (Instr.buildSlice 22 1 #[(0, .agg #[.string s36, .slice p45 l46 l47, .int .u32 n48])]) false [(false, [.slice 0])] <| fun (p49 : Option Addr) (l50 : Nat) (l51 : Nat) =>
     T.stable [(((a40.add ((Int.toNat n25) * 3)).add 1), [.slice p41 l42 l43, .int .u32 n44]), ((a1.add 2), [.slice p37 l38 l39]), ((a35.add ((Int.toNat n25) * 3)), [.string s36]), ((a1.add 2), [.slice p32 l33 l34]), ((a18.add 2), [.slice p29 l30 l31])] <|
     T.sem Try.prog (Builtin.append_ #[22, 22] 22 #[.slice p29 l30 l31, .slice p49 l50 l51]) false [(false, [.slice 0])] <| fun (p52 : Option Addr) (l53 : Nat) (l54 : Nat) =>
     T.stable [(((a40.add ((Int.toNat n25) * 3)).add 1), [.slice p41 l42 l43, .int .u32 n44]), ((a1.add 2), [.slice p37 l38 l39]), ((a35.add ((Int.toNat n25) * 3)), [.string s36]), ((a1.add 2), [.slice p32 l33 l34])] <|
     T.stores (a18.add 2) [.slice p52 l53 l54] <|
     T.again 0 [.int .i64 (IntKind.wrap .i64 (n25 + (1 : Int)))])
     (T.loads a18 [.slice 94, .slice 94, .slice 38, .slice 9] <| fun (p29 : Option Addr) (l30 : Nat) (l31 : Nat) (p32 : Option Addr) (l33 : Nat) (l34 : Nat) (p35 : Option Addr) (l36 : Nat) (l37 : Nat) (p38 : Option Addr) (l39 : Nat) (l40 : Nat) =>
     T.stores a2 [.slice p29 l30 l31, .slice p32 l33 l34, .slice p35 l36 l37, .slice p38 l39 l40] <|
     T.loads a2 [.slice 94, .slice 94, .slice 38, .slice 9] <| fun (p41 : Option Addr) (l42 : Nat) (l43 : Nat) (p44 : Option Addr) (l45 : Nat) (l46 : Nat) (p47 : Option Addr) (l48 : Nat) (l49 : Nat) (p50 : Option Addr) (l51 : Nat) (l52 : Nat) =>
     T.ret (.agg #[.slice p41 l42 l43, .slice p44 l45 l46, .slice p47 l48 l49, .slice p50 l51 l52])))]),
   (T.sem Try.prog (Instr.buildSlice 29 0 #[]) false [(false, [.slice 0])] <| fun (p15 : Option Addr) (l16 : Nat) (l17 : Nat) =>
   T.stable [((a1.add 3), [.slice p9 l10 l11]), ((a1.add 1), [.slice p6 l7 l8]), (a1, [.slice p3 l4 l5])] <|
   T.all [ (T.call Try.prog 31 [.slice p6 l7 l8] false [(false, [.slice 94])] <| fun (p18 : Option Addr) (l19 : Nat) (l20 : Nat) =>
    T.stable [((a1.add 3), [.slice p9 l10 l11]), (a1, [.slice p3 l4 l5])] <|
    T.all [ (T.sem Try.prog (Builtin.append_ #[29, 29] 29 #[.slice p15 l16 l17, .slice p9 l10 l11]) false [(false, [.slice 0])] <| fun (p21 : Option Addr) (l22 : Nat) (l23 : Nat) =>
     T.stable [((a1.add 1), [.slice p6 l7 l8]), (a1, [.slice p3 l4 l5])] <|
     T.new [.slice none 0 0, .slice none 0 0, .slice none 0 0, .slice none 0 0] 47 <| fun (a24 : Addr) =>
     T.stable [((a1.add 3), [.slice p9 l10 l11]), ((a1.add 1), [.slice p6 l7 l8]), (a1, [.slice p3 l4 l5])] <|
     T.stores a24 [.slice p12 l13 l14, .slice p18 l19 l20, .slice none 0 0, .slice p21 l22 l23] <|
     T.loop [(false, [.int .i64])] [.int .i64 (0 : Int)] <| fun (n25 : Int) =>
     T.loads (a1.add 2) [.slice 38] <| fun (p26 : Option Addr) (l27 : Nat) (l28 : Nat) =>
     cond (decide (n25 < (l27 : Int)))
      (T.loads (a24.add 2) [.slice 38] <| fun (p29 : Option Addr) (l30 : Nat) (l31 : Nat) =>
      T.loads (a1.add 2) [.slice 38] <| fun (p32 : Option Addr) (l33 : Nat) (l34 : Nat) =>
      T.need (((0 : Int) ≤ n25) ∧ (n25 < (l33 : Int))) <|
      T.osome p32 <| fun (a35 : Addr) =>
      T.loads (a35.add ((Int.toNat n25) * 3)) [.string] <| fun (s36 : ByteArray) =>
      T.loads (a1.add 2) [.slice 38] <| fun (p37 : Option Addr) (l38 : Nat) (l39 : Nat) =>
      T.need (((0 : Int) ≤ n25) ∧ (n25 < (l38 : Int))) <|
      T.osome p37 <| fun (a40 : Addr) =>
      T.loads ((a40.add ((Int.toNat n25) * 3)).add 1) [.slice 40, .int .u32] <| fun (p41 : Option Addr) (l42 : Nat) (l43 : Nat) (n44 : Int) =>
      T.call Try.prog 32 [.agg #[.slice p41 l42 l43, .int .u32 n44]] false [(true, [.slice 40, .int .u32])] <| fun (p45 : Option Addr) (l46 : Nat) (l47 : Nat) (n48 : Int) =>
      T.stable [((a1.add 2), [.slice p37 l38 l39]), ((a35.add ((Int.toNat n25) * 3)), [.string s36]), ((a1.add 2), [.slice p32 l33 l34]), ((a24.add 2), [.slice p29 l30 l31])] <|
      T.sem Try.prog (Instr.buildSlice 22 1 #[(0, .agg #[.string s36, .slice p45 l46 l47, .int .u32 n48])]) false [(false, [.slice 0])] <| fun (p49 : Option Addr) (l50 : Nat) (l51 : Nat) =>
      T.stable [(((a40.add ((Int.toNat n25) * 3)).add 1), [.slice p41 l42 l43, .int .u32 n44]), ((a1.add 2), [.slice p37 l38 l39]), ((a35.add ((Int.toNat n25) * 3)), [.string s36]), ((a1.add 2), [.slice p32 l33 l34]), ((a24.add 2), [.slice p29 l30 l31])] <|
      T.sem Try.prog (Builtin.append_ #[22, 22] 22 #[.slice p29 l30 l31, .slice p49 l50 l51]) false [(false, [.slice 0])] <| fun (p52 : Option Addr) (l53 : Nat) (l54 : Nat) =>
      T.stable [(((a40.add ((Int.toNat n25) * 3)).add 1), [.slice p41 l42 l43, .int .u32 n44]), ((a1.add 2), [.slice p37 l38 l39]), ((a35.add ((Int.toNat n25) * 3)), [.string s36]), ((a1.add 2), [.slice p32 l33 l34])] <|
      T.stores (a24.add 2) [.slice p52 l53 l54] <|
      T.again 0 [.int .i64 (IntKind.wrap .i64 (n25 + (1 : Int)))])
      (T.loads a24 [.slice 94, .slice 94, .slice 38, .slice 9] <| fun (p29 : Option Addr) (l30 : Nat) (l31 : Nat) (p32 : Option Addr) (l33 : Nat) (l34 : Nat) (p35 : Option Addr) (l36 : Nat) (l37 : Nat) (p38 : Option Addr) (l39 : Nat) (l40 : Nat) =>
      T.stores a2 [.slice p29 l30 l31, .slice p32 l33 l34, .slice p35 l36 l37, .slice p38 l39 l40] <|
      T.loads a2 [.slice 94, .slice 94, .slice 38, .slice 9] <| fun (p41 : Option Addr) (l42 : Nat) (l43 : Nat) (p44 : Option Addr) (l45 : Nat) (l46 : Nat) (p47 : Option Addr) (l48 : Nat) (l49 : Nat) (p50 : Option Addr) (l51 : Nat) (l52 : Nat) =>
      T.ret (.agg #[.slice p41 l42 l43, .slice p44 l45 l46, .slice p47 l48 l49, .slice p50 l51 l52]))),
     (T.new [.slice none 0 0, .slice none 0 0, .slice none 0 0, .slice none 0 0] 47 <| fun (a21 : Addr) =>
     T.stable [((a1.add 3), [.slice p9 l10 l11]), ((a1.add 1), [.slice p6 l7 l8]), (a1, [.slice p3 l4 l5])] <|
     T.sem Try.prog (Builtin.append_ #[29, 29] 29 #[.slice p15 l16 l17, .slice p9 l10 l11]) false [(false, [.slice 0])] <| fun (p22 : Option Addr) (l23 : Nat) (l24 : Nat) =>
     T.stable [((a1.add 1), [.slice p6 l7 l8]), (a1, [.slice p3 l4 l5])] <|
     T.stores a21 [.slice p12 l13 l14, .slice p18 l19 l20, .slice none 0 0, .slice p22 l23 l24] <|
     T.loop [(false, [.int .i64])] [.int .i64 (0 : Int)] <| fun (n25 : Int) =>
     T.loads (a1.add 2) [.slice 38] <| fun (p26 : Option Addr) (l27 : Nat) (l28 : Nat) =>
     cond (decide (n25 < (l27 : Int)))
      (T.loads (a21.add 2) [.slice 38] <| fun (p29 : Option Addr) (l30 : Nat) (l31 : Nat) =>
      T.loads (a1.add 2) [.slice 38] <| fun (p32 : Option Addr) (l33 : Nat) (l34 : Nat) =>
      T.need (((0 : Int) ≤ n25) ∧ (n25 < (l33 : Int))) <|
      T.osome p32 <| fun (a35 : Addr) =>
      T.loads (a35.add ((Int.toNat n25) * 3)) [.string] <| fun (s36 : ByteArray) =>
      T.loads (a1.add 2) [.slice 38] <| fun (p37 : Option Addr) (l38 : Nat) (l39 : Nat) =>
      T.need (((0 : Int) ≤ n25) ∧ (n25 < (l38 : Int))) <|
      T.osome p37 <| fun (a40 : Addr) =>
      T.loads ((a40.add ((Int.toNat n25) * 3)).add 1) [.slice 40, .int .u32] <| fun (p41 : Option Addr) (l42 : Nat) (l43 : Nat) (n44 : Int) =>
      T.call Try.prog 32 [.agg #[.slice p41 l42 l43, .int .u32 n44]] false [(true, [.slice 40, .int .u32])] <| fun (p45 : Option Addr) (l46 : Nat) (l47 : Nat) (n48 : Int) =>
      T.stable [((a1.add 2), [.slice p37 l38 l39]), ((a35.add ((Int.toNat n25) * 3)), [.string s36]), ((a1.add 2), [.slice p32 l33 l34]), ((a21.add 2), [.slice p29 l30 l31])] <|
      T.sem Try.prog (Instr.buildSlice 22 1 #[(0, .agg #[.string s36, .slice p45 l46 l47, .int .u32 n48])]) false [(false, [.slice 0])] <| fun (p49 : Option Addr) (l50 : Nat) (l51 : Nat) =>
      T.stable [(((a40.add ((Int.toNat n25) * 3)).add 1), [.slice p41 l42 l43, .int .u32 n44]), ((a1.add 2), [.slice p37 l38 l39]), ((a35.add ((Int.toNat n25) * 3)), [.string s36]), ((a1.add 2), [.slice p32 l33 l34]), ((a21.add 2), [.slice p29 l30 l31])] <|
      T.sem Try.prog (Builtin.append_ #[22, 22] 22 #[.slice p29 l30 l31, .slice p49 l50 l51]) false [(false, [.slice 0])] <| fun (p52 : Option Addr) (l53 : Nat) (l54 : Nat) =>
      T.stable [(((a40.add ((Int.toNat n25) * 3)).add 1), [.slice p41 l42 l43, .int .u32 n44]), ((a1.add 2), [.slice p37 l38 l39]), ((a35.add ((Int.toNat n25) * 3)), [.string s36]), ((a1.add 2), [.slice p32 l33 l34])] <|
      T.stores (a21.add 2) [.slice p52 l53 l54] <|
      T.again 0 [.int .i64 (IntKind.wrap .i64 (n25 + (1 : Int)))])
      (T.loads a21 [.slice 94, .slice 94, .slice 38, .slice 9] <| fun (p29 : Option Addr) (l30 : Nat) (l31 : Nat) (p32 : Option Addr) (l33 : Nat) (l34 : Nat) (p35 : Option Addr) (l36 : Nat) (l37 : Nat) (p38 : Option Addr) (l39 : Nat) (l40 : Nat) =>
      T.stores a2 [.slice p29 l30 l31, .slice p32 l33 l34, .slice p35 l36 l37, .slice p38 l39 l40] <|
      T.loads a2 [.slice 94, .slice 94, .slice 38, .slice 9] <| fun (p41 : Option Addr) (l42 : Nat) (l43 : Nat) (p44 : Option Addr) (l45 : Nat) (l46 : Nat) (p47 : Option Addr) (l48 : Nat) (l49 : Nat) (p50 : Option Addr) (l51 : Nat) (l52 : Nat) =>
      T.ret (.agg #[.slice p41 l42 l43, .slice p44 l45 l46, .slice p47 l48 l49, .slice p50 l51 l52])))]),
    (T.new [.slice none 0 0, .slice none 0 0, .slice none 0 0, .slice none 0 0] 47 <| fun (a18 : Addr) =>
    T.stable [((a1.add 3), [.slice p9 l10 l11]), ((a1.add 1), [.slice p6 l7 l8]), (a1, [.slice p3 l4 l5])] <|
    T.call Try.prog 31 [.slice p6 l7 l8] false [(false, [.slice 94])] <| fun (p19 : Option Addr) (l20 : Nat) (l21 : Nat) =>
    T.stable [((a1.add 3), [.slice p9 l10 l11]), (a1, [.slice p3 l4 l5])] <|
    T.sem Try.prog (Builtin.append_ #[29, 29] 29 #[.slice p15 l16 l17, .slice p9 l10 l11]) false [(false, [.slice 0])] <| fun (p22 : Option Addr) (l23 : Nat) (l24 : Nat) =>
    T.stable [((a1.add 1), [.slice p6 l7 l8]), (a1, [.slice p3 l4 l5])] <|
    T.stores a18 [.slice p12 l13 l14, .slice p19 l20 l21, .slice none 0 0, .slice p22 l23 l24] <|
    T.loop [(false, [.int .i64])] [.int .i64 (0 : Int)] <| fun (n25 : Int) =>
    T.loads (a1.add 2) [.slice 38] <| fun (p26 : Option Addr) (l27 : Nat) (l28 : Nat) =>
    cond (decide (n25 < (l27 : Int)))
     (T.loads (a18.add 2) [.slice 38] <| fun (p29 : Option Addr) (l30 : Nat) (l31 : Nat) =>
     T.loads (a1.add 2) [.slice 38] <| fun (p32 : Option Addr) (l33 : Nat) (l34 : Nat) =>
     T.need (((0 : Int) ≤ n25) ∧ (n25 < (l33 : Int))) <|
     T.osome p32 <| fun (a35 : Addr) =>
     T.loads (a35.add ((Int.toNat n25) * 3)) [.string] <| fun (s36 : ByteArray) =>
     T.loads (a1.add 2) [.slice 38] <| fun (p37 : Option Addr) (l38 : Nat) (l39 : Nat) =>
     T.need (((0 : Int) ≤ n25) ∧ (n25 < (l38 : Int))) <|
     T.osome p37 <| fun (a40 : Addr) =>
     T.loads ((a40.add ((Int.toNat n25) * 3)).add 1) [.slice 40, .int .u32] <| fun (p41 : Option Addr) (l42 : Nat) (l43 : Nat) (n44 : Int) =>
     T.call Try.prog 32 [.agg #[.slice p41 l42 l43, .int .u32 n44]] false [(true, [.slice 40, .int .u32])] <| fun (p45 : Option Addr) (l46 : Nat) (l47 : Nat) (n48 : Int) =>
     T.stable [((a1.add 2), [.slice p37 l38 l39]), ((a35.add ((Int.toNat n25) * 3)), [.string s36]), ((a1.add 2), [.slice p32 l33 l34]), ((a18.add 2), [.slice p29 l30 l31])] <|
     T.sem Try.prog (Instr.buildSlice 22 1 #[(0, .agg #[.string s36, .slice p45 l46 l47, .int .u32 n48])]) false [(false, [.slice 0])] <| fun (p49 : Option Addr) (l50 : Nat) (l51 : Nat) =>
     T.stable [(((a40.add ((Int.toNat n25) * 3)).add 1), [.slice p41 l42 l43, .int .u32 n44]), ((a1.add 2), [.slice p37 l38 l39]), ((a35.add ((Int.toNat n25) * 3)), [.string s36]), ((a1.add 2), [.slice p32 l33 l34]), ((a18.add 2), [.slice p29 l30 l31])] <|
     T.sem Try.prog (Builtin.append_ #[22, 22] 22 #[.slice p29 l30 l31, .slice p49 l50 l51]) false [(false, [.slice 0])] <| fun (p52 : Option Addr) (l53 : Nat) (l54 : Nat) =>
     T.stable [(((a40.add ((Int.toNat n25) * 3)).add 1), [.slice p41 l42 l43, .int .u32 n44]), ((a1.add 2), [.slice p37 l38 l39]), ((a35.add ((Int.toNat n25) * 3)), [.string s36]), ((a1.add 2), [.slice p32 l33 l34])] <|
     T.stores (a18.add 2) [.slice p52 l53 l54] <|
     T.again 0 [.int .i64 (IntKind.wrap .i64 (n25 + (1 : Int)))])
     (T.loads a18 [.slice 94, .slice 94, .slice 38, .slice 9] <| fun (p29 : Option Addr) (l30 : Nat) (l31 : Nat) (p32 : Option Addr) (l33 : Nat) (l34 : Nat) (p35 : Option Addr) (l36 : Nat) (l37 : Nat) (p38 : Option Addr) (l39 : Nat) (l40 : Nat) =>
     T.stores a2 [.slice p29 l30 l31, .slice p32 l33 l34, .slice p35 l36 l37, .slice p38 l39 l40] <|
     T.loads a2 [.slice 94, .slice 94, .slice 38, .slice 9] <| fun (p41 : Option Addr) (l42 : Nat) (l43 : Nat) (p44 : Option Addr) (l45 : Nat) (l46 : Nat) (p47 : Option Addr) (l48 : Nat) (l49 : Nat) (p50 : Option Addr) (l51 : Nat) (l52 : Nat) =>
     T.ret (.agg #[.slice p41 l42 l43, .slice p44 l45 l46, .slice p47 l48 l49, .slice p50 l51 l52])))]),
   (T.new [.slice none 0 0, .slice none 0 0, .slice none 0 0, .slice none 0 0] 47 <| fun (a15 : Addr) =>
   T.stable [((a1.add 3), [.slice p9 l10 l11]), ((a1.add 1), [.slice p6 l7 l8]), (a1, [.slice p3 l4 l5])] <|
   T.all [ (T.call Try.prog 31 [.slice p6 l7 l8] false [(false, [.slice 94])] <| fun (p16 : Option Addr) (l17 : Nat) (l18 : Nat) =>
    T.stable [((a1.add 3), [.slice p9 l10 l11]), (a1, [.slice p3 l4 l5])] <|
    T.sem Try.prog (Instr.buildSlice 29 0 #[]) false [(false, [.slice 0])] <| fun (p19 : Option Addr) (l20 : Nat) (l21 : Nat) =>
    T.stable [((a1.add 3), [.slice p9 l10 l11]), ((a1.add 1), [.slice p6 l7 l8]), (a1, [.slice p3 l4 l5])] <|
    T.sem Try.prog (Builtin.append_ #[29, 29] 29 #[.slice p19 l20 l21, .slice p9 l10 l11]) false [(false, [.slice 0])] <| fun (p22 : Option Addr) (l23 : Nat) (l24 : Nat) =>
    T.stable [((a1.add 1), [.slice p6 l7 l8]), (a1, [.slice p3 l4 l5])] <|
    T.stores a15 [.slice p12 l13 l14, .slice p16 l17 l18, .slice none 0 0, .slice p22 l23 l24] <|
    T.loop [(false, [.int .i64])] [.int .i64 (0 : Int)] <| fun (n25 : Int) =>
    T.loads (a1.add 2) [.slice 38] <| fun (p26 : Option Addr) (l27 : Nat) (l28 : Nat) =>
    cond (decide (n25 < (l27 : Int)))
     (T.loads (a15.add 2) [.slice 38] <| fun (p29 : Option Addr) (l30 : Nat) (l31 : Nat) =>
     T.loads (a1.add 2) [.slice 38] <| fun (p32 : Option Addr) (l33 : Nat) (l34 : Nat) =>
     T.need (((0 : Int) ≤ n25) ∧ (n25 < (l33 : Int))) <|
     T.osome p32 <| fun (a35 : Addr) =>
     T.loads (a35.add ((Int.toNat n25) * 3)) [.string] <| fun (s36 : ByteArray) =>
     T.loads (a1.add 2) [.slice 38] <| fun (p37 : Option Addr) (l38 : Nat) (l39 : Nat) =>
     T.need (((0 : Int) ≤ n25) ∧ (n25 < (l38 : Int))) <|
     T.osome p37 <| fun (a40 : Addr) =>
     T.loads ((a40.add ((Int.toNat n25) * 3)).add 1) [.slice 40, .int .u32] <| fun (p41 : Option Addr) (l42 : Nat) (l43 : Nat) (n44 : Int) =>
     T.call Try.prog 32 [.agg #[.slice p41 l42 l43, .int .u32 n44]] false [(true, [.slice 40, .int .u32])] <| fun (p45 : Option Addr) (l46 : Nat) (l47 : Nat) (n48 : Int) =>
     T.stable [((a1.add 2), [.slice p37 l38 l39]), ((a35.add ((Int.toNat n25) * 3)), [.string s36]), ((a1.add 2), [.slice p32 l33 l34]), ((a15.add 2), [.slice p29 l30 l31])] <|
     T.sem Try.prog (Instr.buildSlice 22 1 #[(0, .agg #[.string s36, .slice p45 l46 l47, .int .u32 n48])]) false [(false, [.slice 0])] <| fun (p49 : Option Addr) (l50 : Nat) (l51 : Nat) =>
     T.stable [(((a40.add ((Int.toNat n25) * 3)).add 1), [.slice p41 l42 l43, .int .u32 n44]), ((a1.add 2), [.slice p37 l38 l39]), ((a35.add ((Int.toNat n25) * 3)), [.string s36]), ((a1.add 2), [.slice p32 l33 l34]), ((a15.add 2), [.slice p29 l30 l31])] <|
     T.sem Try.prog (Builtin.append_ #[22, 22] 22 #[.slice p29 l30 l31, .slice p49 l50 l51]) false [(false, [.slice 0])] <| fun (p52 : Option Addr) (l53 : Nat) (l54 : Nat) =>
     T.stable [(((a40.add ((Int.toNat n25) * 3)).add 1), [.slice p41 l42 l43, .int .u32 n44]), ((a1.add 2), [.slice p37 l38 l39]), ((a35.add ((Int.toNat n25) * 3)), [.string s36]), ((a1.add 2), [.slice p32 l33 l34])] <|
     T.stores (a15.add 2) [.slice p52 l53 l54] <|
     T.again 0 [.int .i64 (IntKind.wrap .i64 (n25 + (1 : Int)))])
     (T.loads a15 [.slice 94, .slice 94, .slice 38, .slice 9] <| fun (p29 : Option Addr) (l30 : Nat) (l31 : Nat) (p32 : Option Addr) (l33 : Nat) (l34 : Nat) (p35 : Option Addr) (l36 : Nat) (l37 : Nat) (p38 : Option Addr) (l39 : Nat) (l40 : Nat) =>
     T.stores a2 [.slice p29 l30 l31, .slice p32 l33 l34, .slice p35 l36 l37, .slice p38 l39 l40] <|
     T.loads a2 [.slice 94, .slice 94, .slice 38, .slice 9] <| fun (p41 : Option Addr) (l42 : Nat) (l43 : Nat) (p44 : Option Addr) (l45 : Nat) (l46 : Nat) (p47 : Option Addr) (l48 : Nat) (l49 : Nat) (p50 : Option Addr) (l51 : Nat) (l52 : Nat) =>
     T.ret (.agg #[.slice p41 l42 l43, .slice p44 l45 l46, .slice p47 l48 l49, .slice p50 l51 l52]))),
    (T.sem Try.prog (Instr.buildSlice 29 0 #[]) false [(false, [.slice 0])] <| fun (p16 : Option Addr) (l17 : Nat) (l18 : Nat) =>
    T.stable [((a1.add 3), [.slice p9 l10 l11]), ((a1.add 1), [.slice p6 l7 l8]), (a1, [.slice p3 l4 l5])] <|
    T.call Try.prog 31 [.slice p6 l7 l8] false [(false, [.slice 94])] <| fun (p19 : Option Addr) (l20 : Nat) (l21 : Nat) =>
    T.stable [((a1.add 3), [.slice p9 l10 l11]), (a1, [.slice p3 l4 l5])] <|
    T.sem Try.prog (Builtin.append_ #[29, 29] 29 #[.slice p16 l17 l18, .slice p9 l10 l11]) false [(false, [.slice 0])] <| fun (p22 : Option Addr) (l23 : Nat) (l24 : Nat) =>
    T.stable [((a1.add 1), [.slice p6 l7 l8]), (a1, [.slice p3 l4 l5])] <|
    T.stores a15 [.slice p12 l13 l14, .slice p19 l20 l21, .slice none 0 0, .slice p22 l23 l24] <|
    T.loop [(false, [.int .i64])] [.int .i64 (0 : Int)] <| fun (n25 : Int) =>
    T.loads (a1.add 2) [.slice 38] <| fun (p26 : Option Addr) (l27 : Nat) (l28 : Nat) =>
    cond (decide (n25 < (l27 : Int)))
     (T.loads (a15.add 2) [.slice 38] <| fun (p29 : Option Addr) (l30 : Nat) (l31 : Nat) =>
     T.loads (a1.add 2) [.slice 38] <| fun (p32 : Option Addr) (l33 : Nat) (l34 : Nat) =>
     T.need (((0 : Int) ≤ n25) ∧ (n25 < (l33 : Int))) <|
     T.osome p32 <| fun (a35 : Addr) =>
     T.loads (a35.add ((Int.toNat n25) * 3)) [.string] <| fun (s36 : ByteArray) =>
     T.loads (a1.add 2) [.slice 38] <| fun (p37 : Option Addr) (l38 : Nat) (l39 : Nat) =>
     T.need (((0 : Int) ≤ n25) ∧ (n25 < (l38 : Int))) <|
     T.osome p37 <| fun (a40 : Addr) =>
     T.loads ((a40.add ((Int.toNat n25) * 3)).add 1) [.slice 40, .int .u32] <| fun (p41 : Option Addr) (l42 : Nat) (l43 : Nat) (n44 : Int) =>
     T.call Try.prog 32 [.agg #[.slice p41 l42 l43, .int .u32 n44]] false [(true, [.slice 40, .int .u32])] <| fun (p45 : Option Addr) (l46 : Nat) (l47 : Nat) (n48 : Int) =>
     T.stable [((a1.add 2), [.slice p37 l38 l39]), ((a35.add ((Int.toNat n25) * 3)), [.string s36]), ((a1.add 2), [.slice p32 l33 l34]), ((a15.add 2), [.slice p29 l30 l31])] <|
     T.sem Try.prog (Instr.buildSlice 22 1 #[(0, .agg #[.string s36, .slice p45 l46 l47, .int .u32 n48])]) false [(false, [.slice 0])] <| fun (p49 : Option Addr) (l50 : Nat) (l51 : Nat) =>
     T.stable [(((a40.add ((Int.toNat n25) * 3)).add 1), [.slice p41 l42 l43, .int .u32 n44]), ((a1.add 2), [.slice p37 l38 l39]), ((a35.add ((Int.toNat n25) * 3)), [.string s36]), ((a1.add 2), [.slice p32 l33 l34]), ((a15.add 2), [.slice p29 l30 l31])] <|
     T.sem Try.prog (Builtin.append_ #[22, 22] 22 #[.slice p29 l30 l31, .slice p49 l50 l51]) false [(false, [.slice 0])] <| fun (p52 : Option Addr) (l53 : Nat) (l54 : Nat) =>
     T.stable [(((a40.add ((Int.toNat n25) * 3)).add 1), [.slice p41 l42 l43, .int .u32 n44]), ((a1.add 2), [.slice p37 l38 l39]), ((a35.add ((Int.toNat n25) * 3)), [.string s36]), ((a1.add 2), [.slice p32 l33 l34])] <|
     T.stores (a15.add 2) [.slice p52 l53 l54] <|
     T.again 0 [.int .i64 (IntKind.wrap .i64 (n25 + (1 : Int)))])
     (T.loads a15 [.slice 94, .slice 94, .slice 38, .slice 9] <| fun (p29 : Option Addr) (l30 : Nat) (l31 : Nat) (p32 : Option Addr) (l33 : Nat) (l34 : Nat) (p35 : Option Addr) (l36 : Nat) (l37 : Nat) (p38 : Option Addr) (l39 : Nat) (l40 : Nat) =>
     T.stores a2 [.slice p29 l30 l31, .slice p32 l33 l34, .slice p35 l36 l37, .slice p38 l39 l40] <|
     T.loads a2 [.slice 94, .slice 94, .slice 38, .slice 9] <| fun (p41 : Option Addr) (l42 : Nat) (l43 : Nat) (p44 : Option Addr) (l45 : Nat) (l46 : Nat) (p47 : Option Addr) (l48 : Nat) (l49 : Nat) (p50 : Option Addr) (l51 : Nat) (l52 : Nat) =>
     T.ret (.agg #[.slice p41 l42 l43, .slice p44 l45 l46, .slice p47 l48 l49, .slice p50 l51 l52])))])]),
  (T.sem Try.prog (Instr.buildSlice 29 0 #[]) false [(false, [.slice 0])] <| fun (p12 : Option Addr) (l13 : Nat) (l14 : Nat) =>
  T.stable [((a1.add 3), [.slice p9 l10 l11]), ((a1.add 1), [.slice p6 l7 l8]), (a1, [.slice p3 l4 l5])] <|
  T.all [ (T.call Try.prog 31 [.slice p3 l4 l5] false [(false, [.slice 94])] <| fun (p15 : Option Addr) (l16 : Nat) (l17 : Nat) =>
   T.stable [((a1.add 3), [.slice p9 l10 l11]), ((a1.add 1), [.slice p6 l7 l8])] <|
   T.all [ (T.call Try.prog 31 [.slice p6 l7 l8] false [(false, [.slice 94])] <| fun (p18 : Option Addr) (l19 : Nat) (l20 : Nat) =>
    T.stable [((a1.add 3), [.slice p9 l10 l11]), (a1, [.slice p3 l4 l5])] <|
    T.all [ (T.sem Try.prog (Builtin.append_ #[29, 29] 29 #[.slice p12 l13 l14, .slice p9 l10 l11]) false [(false, [.slice 0])] <| fun (p21 : Option Addr) (l22 : Nat) (l23 : Nat) =>
     T.stable [((a1.add 1), [.slice p6 l7 l8]), (a1, [.slice p3 l4 l5])] <|
     T.new [.slice none 0 0, .slice none 0 0, .slice none 0 0, .slice none 0 0] 47 <| fun (a24 : Addr) =>
     T.stable [((a1.add 3), [.slice p9 l10 l11]), ((a1.add 1), [.slice p6 l7 l8]), (a1, [.slice p3 l4 l5])] <|
     T.stores a24 [.slice p15 l16 l17, .slice p18 l19 l20, .slice none 0 0, .slice p21 l22 l23] <|
     T.loop [(false, [.int .i64])] [.int .i64 (0 : Int)] <| fun (n25 : Int) =>
     T.loads (a1.add 2) [.slice 38] <| fun (p26 : Option Addr) (l27 : Nat) (l28 : Nat) =>
     cond (decide (n25 < (l27 : Int)))
      (T.loads (a24.add 2) [.slice 38] <| fun (p29 : Option Addr) (l30 : Nat) (l31 : Nat) =>
      T.loads (a1.add 2) [.slice 38] <| fun (p32 : Option Addr) (l33 : Nat) (l34 : Nat) =>
      T.need (((0 : Int) ≤ n25) ∧ (n25 < (l33 : Int))) <|
      T.osome p32 <| fun (a35 : Addr) =>
      T.loads (a35.add ((Int.toNat n25) * 3)) [.string] <| fun (s36 : ByteArray) =>
      T.loads (a1.add 2) [.slice 38] <| fun (p37 : Option Addr) (l38 : Nat) (l39 : Nat) =>
      T.need (((0 : Int) ≤ n25) ∧ (n25 < (l38 : Int))) <|
      T.osome p37 <| fun (a40 : Addr) =>
      T.loads ((a40.add ((Int.toNat n25) * 3)).add 1) [.slice 40, .int .u32] <| fun (p41 : Option Addr) (l42 : Nat) (l43 : Nat) (n44 : Int) =>
      T.call Try.prog 32 [.agg #[.slice p41 l42 l43, .int .u32 n44]] false [(true, [.slice 40, .int .u32])] <| fun (p45 : Option Addr) (l46 : Nat) (l47 : Nat) (n48 : Int) =>
      T.stable [((a1.add 2), [.slice p37 l38 l39]), ((a35.add ((Int.toNat n25) * 3)), [.string s36]), ((a1.add 2), [.slice p32 l33 l34]), ((a24.add 2), [.slice p29 l30 l31])] <|
      T.sem Try.prog (Instr.buildSlice 22 1 #[(0, .agg #[.string s36, .slice p45 l46 l47, .int .u32 n48])]) false [(false, [.slice 0])] <| fun (p49 : Option Addr) (l50 : Nat) (l51 : Nat) =>
      T.stable [(((a40.add ((Int.toNat n25) * 3)).add 1), [.slice p41 l42 l43, .int .u32 n44]), ((a1.add 2), [.slice p37 l38 l39]), ((a35.add ((Int.toNat n25) * 3)), [.string s36]), ((a1.add 2), [.slice p32 l33 l34]), ((a24.add 2), [.slice p29 l30 l31])] <|
      T.sem Try.prog (Builtin.append_ #[22, 22] 22 #[.slice p29 l30 l31, .slice p49 l50 l51]) false [(false, [.slice 0])] <| fun (p52 : Option Addr) (l53 : Nat) (l54 : Nat) =>
      T.stable [(((a40.add ((Int.toNat n25) * 3)).add 1), [.slice p41 l42 l43, .int .u32 n44]), ((a1.add 2), [.slice p37 l38 l39]), ((a35.add ((Int.toNat n25) * 3)), [.string s36]), ((a1.add 2), [.slice p32 l33 l34])] <|
      T.stores (a24.add 2) [.slice p52 l53 l54] <|
      T.again 0 [.int .i64 (IntKind.wrap .i64 (n25 + (1 : Int)))])
      (T.loads a24 [.slice 94, .slice 94, .slice 38, .slice 9] <| fun (p29 : Option Addr) (l30 : Nat) (l31 : Nat) (p32 : Option Addr) (l33 : Nat) (l34 : Nat) (p35 : Option Addr) (l36 : Nat) (l37 : Nat) (p38 : Option Addr) (l39 : Nat) (l40 : Nat) =>
      T.stores a2 [.slice p29 l30 l31, .slice p32 l33 l34, .slice p35 l36 l37, .slice p38 l39 l40] <|
      T.loads a2 [.slice 94, .slice 94, .slice 38, .slice 9] <| fun (p41 : Option Addr) (l42 : Nat) (l43 : Nat) (p44 : Option Addr) (l45 : Nat) (l46 : Nat) (p47 : Option Addr) (l48 : Nat) (l49 : Nat) (p50 : Option Addr) (l51 : Nat) (l52 : Nat) =>
      T.ret (.agg #[.slice p41 l42 l43, .slice p44 l45 l46, .slice p47 l48 l49, .slice p50 l51 l52]))),
     (T.new [.slice none 0 0, .slice none 0 0, .slice none 0 0, .slice none 0 0] 47 <| fun (a21 : Addr) =>
     T.stable [((a1.add 3), [.slice p9 l10 l11]), ((a1.add 1), [.slice p6 l7 l8]), (a1, [.slice p3 l4 l5])] <|
     T.sem Try.prog (Builtin.append_ #[29, 29] 29 #[.slice p12 l13 l14, .slice p9 l10 l11]) false [(false, [.slice 0])] <| fun (p22 : Option Addr) (l23 : Nat) (l24 : Nat) =>
     T.stable [((a1.add 1), [.slice p6 l7 l8]), (a1, [.slice p3 l4 l5])] <|
     T.stores a21 [.slice p15 l16 l17, .slice p18 l19 l20, .slice none 0 0, .slice p22 l23 l24] <|
     T.loop [(false, [.int .i64])] [.int .i64 (0 : Int)] <| fun (n25 : Int) =>
     T.loads (a1.add 2) [.slice 38] <| fun (p26 : Option Addr) (l27 : Nat) (l28 : Nat) =>
     cond (decide (n25 < (l27 : Int)))
      (T.loads (a21.add 2) [.slice 38] <| fun (p29 : Option Addr) (l30 : Nat) (l31 : Nat) =>
      T.loads (a1.add 2) [.slice 38] <| fun (p32 : Option Addr) (l33 : Nat) (l34 : Nat) =>
      T.need (((0 : Int) ≤ n25) ∧ (n25 < (l33 : Int))) <|
      T.osome p32 <| fun (a35 : Addr) =>
      T.loads (a35.add ((Int.toNat n25) * 3)) [.string] <| fun (s36 : ByteArray) =>
      T.loads (a1.add 2) [.slice 38] <| fun (p37 : Option Addr) (l38 : Nat) (l39 : Nat) =>
      T.need (((0 : Int) ≤ n25) ∧ (n25 < (l38 : Int))) <|
      T.osome p37 <| fun (a40 : Addr) =>
      T.loads ((a40.add ((Int.toNat n25) * 3)).add 1) [.slice 40, .int .u32] <| fun (p41 : Option Addr) (l42 : Nat) (l43 : Nat) (n44 : Int) =>
      T.call Try.prog 32 [.agg #[.slice p41 l42 l43, .int .u32 n44]] false [(true, [.slice 40, .int .u32])] <| fun (p45 : Option Addr) (l46 : Nat) (l47 : Nat) (n48 : Int) =>
      T.stable [((a1.add 2), [.slice p37 l38 l39]), ((a35.add ((Int.toNat n25) * 3)), [.string s36]), ((a1.add 2), [.slice p32 l33 l34]), ((a21.add 2), [.slice p29 l30 l31])] <|
      T.sem Try.prog (Instr.buildSlice 22 1 #[(0, .agg #[.string s36, .slice p45 l46 l47, .int .u32 n48])]) false [(false, [.slice 0])] <| fun (p49 : Option Addr) (l50 : Nat) (l51 : Nat) =>
      T.stable [(((a40.add ((Int.toNat n25) * 3)).add 1), [.slice p41 l42 l43, .int .u32 n44]), ((a1.add 2), [.slice p37 l38 l39]), ((a35.add ((Int.toNat n25) * 3)), [.string s36]), ((a1.add 2), [.slice p32 l33 l34]), ((a21.add 2), [.slice p29 l30 l31])] <|
      T.sem Try.prog (Builtin.append_ #[22, 22] 22 #[.slice p29 l30 l31, .slice p49 l50 l51]) false [(false, [.slice 0])] <| fun (p52 : Option Addr) (l53 : Nat) (l54 : Nat) =>
      T.stable [(((a40.add ((Int.toNat n25) * 3)).add 1), [.slice p41 l42 l43, .int .u32 n44]), ((a1.add 2), [.slice p37 l38 l39]), ((a35.add ((Int.toNat n25) * 3)), [.string s36]), ((a1.add 2), [.slice p32 l33 l34])] <|
      T.stores (a21.add 2) [.slice p52 l53 l54] <|
      T.again 0 [.int .i64 (IntKind.wrap .i64 (n25 + (1 : Int)))])
      (T.loads a21 [.slice 94, .slice 94, .slice 38, .slice 9] <| fun (p29 : Option Addr) (l30 : Nat) (l31 : Nat) (p32 : Option Addr) (l33 : Nat) (l34 : Nat) (p35 : Option Addr) (l36 : Nat) (l37 : Nat) (p38 : Option Addr) (l39 : Nat) (l40 : Nat) =>
      T.stores a2 [.slice p29 l30 l31, .slice p32 l33 l34, .slice p35 l36 l37, .slice p38 l39 l40] <|
      T.loads a2 [.slice 94, .slice 94, .slice 38, .slice 9] <| fun (p41 : Option Addr) (l42 : Nat) (l43 : Nat) (p44 : Option Addr) (l45 : Nat) (l46 : Nat) (p47 : Option Addr) (l48 : Nat) (l49 : Nat) (p50 : Option Addr) (l51 : Nat) (l52 : Nat) =>
      T.ret (.agg #[.slice p41 l42 l43, .slice p44 l45 l46, .slice p47 l48 l49, .slice p50 l51 l52])))]),
    (T.new [.slice none 0 0, .slice none 0 0, .slice none 0 0, .slice none 0 0] 47 <| fun (a18 : Addr) =>
    T.stable [((a1.add 3), [.slice p9 l10 l11]), ((a1.add 1), [.slice p6 l7 l8]), (a1, [.slice p3 l4 l5])] <|
    T.call Try.prog 31 [.slice p6 l7 l8] false [(false, [.slice 94])] <| fun (p19 : Option Addr) (l20 : Nat) (l21 : Nat) =>
    T.stable [((a1.add 3), [.slice p9 l10 l11]), (a1, [.slice p3 l4 l5])] <|
    T.sem Try.prog (Builtin.append_ #[29, 29] 29 #[.slice p12 l13 l14, .slice p9 l10 l11]) false [(false, [.slice 0])] <| fun (p22 : Option Addr) (l23 : Nat) (l24 : Nat) =>
    T.stable [((a1.add 1), [.slice p6 l7 l8]), (a1, [.slice p3 l4 l5])] <|
    T.stores a18 [.slice p15 l16 l17, .slice p19 l20 l21, .slice none 0 0, .slice p22 l23 l24] <|
    T.loop [(false, [.int .i64])] [.int .i64 (0 : Int)] <| fun (n25 : Int) =>
    T.loads (a1.add 2) [.slice 38] <| fun (p26 : Option Addr) (l27 : Nat) (l28 : Nat) =>
    cond (decide (n25 < (l27 : Int)))
     (T.loads (a18.add 2) [.slice 38] <| fun (p29 : Option Addr) (l30 : Nat) (l31 : Nat) =>
     T.loads (a1.add 2) [.slice 38] <| fun (p32 : Option Addr) (l33 : Nat) (l34 : Nat) =>
     T.need (((0 : Int) ≤ n25) ∧ (n25 < (l33 : Int))) <|
     T.osome p32 <| fun (a35 : Addr) =>
     T.loads (a35.add ((Int.toNat n25) * 3)) [.string] <| fun (s36 : ByteArray) =>
     T.loads (a1.add 2) [.slice 38] <| fun (p37 : Option Addr) (l38 : Nat) (l39 : Nat) =>
     T.need (((0 : Int) ≤ n25) ∧ (n25 < (l38 : Int))) <|
     T.osome p37 <| fun (a40 : Addr) =>
     T.loads ((a40.add ((Int.toNat n25) * 3)).add 1) [.slice 40, .int .u32] <| fun (p41 : Option Addr) (l42 : Nat) (l43 : Nat) (n44 : Int) =>
     T.call Try.prog 32 [.agg #[.slice p41 l42 l43, .int .u32 n44]] false [(true, [.slice 40, .int .u32])] <| fun (p45 : Option Addr) (l46 : Nat) (l47 : Nat) (n48 : Int) =>
     T.stable [((a1.add 2), [.slice p37 l38 l39]), ((a35.add ((Int.toNat n25) * 3)), [.string s36]), ((a1.add 2), [.slice p32 l33 l34]), ((a18.add 2), [.slice p29 l30 l31])] <|
     T.sem Try.prog (Instr.buildSlice 22 1 #[(0, .agg #[.string s36, .slice p45 l46 l47, .int .u32 n48])]) false [(false, [.slice 0])] <| fun (p49 : Option Addr) (l50 : Nat) (l51 : Nat) =>
     T.stable [(((a40.add ((Int.toNat n25) * 3)).add 1), [.slice p41 l42 l43, .int .u32 n44]), ((a1.add 2), [.slice p37 l38 l39]), ((a35.add ((Int.toNat n25) * 3)), [.string s36]), ((a1.add 2), [.slice p32 l33 l34]), ((a18.add 2), [.slice p29 l30 l31])] <|
     T.sem Try.prog (Builtin.append_ #[22, 22] 22 #[.slice p29 l30 l31, .slice p49 l50 l51]) false [(false, [.slice 0])] <| fun (p52 : Option Addr) (l53 : Nat) (l54 : Nat) =>
     T.stable [(((a40.add ((Int.toNat n25) * 3)).add 1), [.slice p41 l42 l43, .int .u32 n44]), ((a1.add 2), [.slice p37 l38 l39]), ((a35.add ((Int.toNat n25) * 3)), [.string s36]), ((a1.add 2), [.slice p32 l33 l34])] <|
     T.stores (a18.add 2) [.slice p52 l53 l54] <|
     T.again 0 [.int .i64 (IntKind.wrap .i64 (n25 + (1 : Int)))])
     (T.loads a18 [.slice 94, .slice 94, .slice 38, .slice 9] <| fun (p29 : Option Addr) (l30 : Nat) (l31 : Nat) (p32 : Option Addr) (l33 : Nat) (l34 : Nat) (p35 : Option Addr) (l36 : Nat) (l37 : Nat) (p38 : Option Addr) (l39 : Nat) (l40 : Nat) =>
     T.stores a2 [.slice p29 l30 l31, .slice p32 l33 l34, .slice p35 l36 l37, .slice p38 l39 l40] <|
     T.loads a2 [.slice 94, .slice 94, .slice 38, .slice 9] <| fun (p41 : Option Addr) (l42 : Nat) (l43 : Nat) (p44 : Option Addr) (l45 : Nat) (l46 : Nat) (p47 : Option Addr) (l48 : Nat) (l49 : Nat) (p50 : Option Addr) (l51 : Nat) (l52 : Nat) =>
     T.ret (.agg #[.slice p41 l42 l43, .slice p44 l45 l46, .slice p47 l48 l49, .slice p50 l51 l52])))]),
   (T.new [.slice none 0 0, .slice none 0 0, .slice none 0 0, .slice none 0 0] 47 <| fun (a15 : Addr) =>
   T.stable [((a1.add 3), [.slice p9 l10 l11]), ((a1.add 1), [.slice p6 l7 l8]), (a1, [.slice p3 l4 l5])] <|
   T.call Try.prog 31 [.slice p3 l4 l5] false [(false, [.slice 94])] <| fun (p16 : Option Addr) (l17 : Nat) (l18 : Nat) =>
   T.stable [((a1.add 3), [.slice p9 l10 l11]), ((a1.add 1), [.slice p6 l7 l8])] <|
   T.call Try.prog 31 [.slice p6 l7 l8] false [(false, [.slice 94])] <| fun (p19 : Option Addr) (l20 : Nat) (l21 : Nat) =>
   T.stable [((a1.add 3), [.slice p9 l10 l11]), (a1, [.slice p3 l4 l5])] <|
   T.sem Try.prog (Builtin.append_ #[29, 29] 29 #[.slice p12 l13 l14, .slice p9 l10 l11]) false [(false, [.slice 0])] <| fun (p22 : Option Addr) (l23 : Nat) (l24 : Nat) =>
   T.stable [((a1.add 1), [.slice p6 l7 l8]), (a1, [.slice p3 l4 l5])] <|
   T.stores a15 [.slice p16 l17 l18, .slice p19 l20 l21, .slice none 0 0, .slice p22 l23 l24] <|
   T.loop [(false, [.int .i64])] [.int .i64 (0 : Int)] <| fun (n25 : Int) =>
   T.loads (a1.add 2) [.slice 38] <| fun (p26 : Option Addr) (l27 : Nat) (l28 : Nat) =>
   cond (decide (n25 < (l27 : Int)))
    (T.loads (a15.add 2) [.slice 38] <| fun (p29 : Option Addr) (l30 : Nat) (l31 : Nat) =>
    T.loads (a1.add 2) [.slice 38] <| fun (p32 : Option Addr) (l33 : Nat) (l34 : Nat) =>
    T.need (((0 : Int) ≤ n25) ∧ (n25 < (l33 : Int))) <|
    T.osome p32 <| fun (a35 : Addr) =>
    T.loads (a35.add ((Int.toNat n25) * 3)) [.string] <| fun (s36 : ByteArray) =>
    T.loads (a1.add 2) [.slice 38] <| fun (p37 : Option Addr) (l38 : Nat) (l39 : Nat) =>
    T.need (((0 : Int) ≤ n25) ∧ (n25 < (l38 : Int))) <|
    T.osome p37 <| fun (a40 : Addr) =>
    T.loads ((a40.add ((Int.toNat n25) * 3)).add 1) [.slice 40, .int .u32] <| fun (p41 : Option Addr) (l42 : Nat) (l43 : Nat) (n44 : Int) =>
    T.call Try.prog 32 [.agg #[.slice p41 l42 l43, .int .u32 n44]] false [(true, [.slice 40, .int .u32])] <| fun (p45 : Option Addr) (l46 : Nat) (l47 : Nat) (n48 : Int) =>
    T.stable [((a1.add 2), [.slice p37 l38 l39]), ((a35.add ((Int.toNat n25) * 3)), [.string s36]), ((a1.add 2), [.slice p32 l33 l34]), ((a15.add 2), [.slice p29 l30 l31])] <|
    T.sem Try.prog (Instr.buildSlice 22 1 #[(0, .agg #[.string s36, .slice p45 l46 l47, .int .u32 n48])]) false [(false, [.slice 0])] <| fun (p49 : Option Addr) (l50 : Nat) (l51 : Nat) =>
    T.stable [(((a40.add ((Int.toNat n25) * 3)).add 1), [.slice p41 l42 l43, .int .u32 n44]), ((a1.add 2), [.slice p37 l38 l39]), ((a35.add ((Int.toNat n25) * 3)), [.string s36]), ((a1.add 2), [.slice p32 l33 l34]), ((a15.add 2), [.slice p29 l30 l31])] <|
    T.sem Try.prog (Builtin.append_ #[22, 22] 22 #[.slice p29 l30 l31, .slice p49 l50 l51]) false [(false, [.slice 0])] <| fun (p52 : Option Addr) (l53 : Nat) (l54 : Nat) =>
    T.stable [(((a40.add ((Int.toNat n25) * 3)).add 1), [.slice p41 l42 l43, .int .u32 n44]), ((a1.add 2), [.slice p37 l38 l39]), ((a35.add ((Int.toNat n25) * 3)), [.string s36]), ((a1.add 2), [.slice p32 l33 l34])] <|
    T.stores (a15.add 2) [.slice p52 l53 l54] <|
    T.again 0 [.int .i64 (IntKind.wrap .i64 (n25 + (1 : Int)))])
    (T.loads a15 [.slice 94, .slice 94, .slice 38, .slice 9] <| fun (p29 : Option Addr) (l30 : Nat) (l31 : Nat) (p32 : Option Addr) (l33 : Nat) (l34 : Nat) (p35 : Option Addr) (l36 : Nat) (l37 : Nat) (p38 : Option Addr) (l39 : Nat) (l40 : Nat) =>
    T.stores a2 [.slice p29 l30 l31, .slice p32 l33 l34, .slice p35 l36 l37, .slice p38 l39 l40] <|
    T.loads a2 [.slice 94, .slice 94, .slice 38, .slice 9] <| fun (p41 : Option Addr) (l42 : Nat) (l43 : Nat) (p44 : Option Addr) (l45 : Nat) (l46 : Nat) (p47 : Option Addr) (l48 : Nat) (l49 : Nat) (p50 : Option Addr) (l51 : Nat) (l52 : Nat) =>
    T.ret (.agg #[.slice p41 l42 l43, .slice p44 l45 l46, .slice p47 l48 l49, .slice p50 l51 l52])))]),
  (T.new [.slice none 0 0, .slice none 0 0, .slice none 0 0, .slice none 0 0] 47 <| fun (a12 : Addr) =>
  T.stable [((a1.add 3), [.slice p9 l10 l11]), ((a1.add 1), [.slice p6 l7 l8]), (a1, [.slice p3 l4 l5])] <|
  T.all [ (T.call Try.prog 31 [.slice p3 l4 l5] false [(false, [.slice 94])] <| fun (p13 : Option Addr) (l14 : Nat) (l15 : Nat) =>
   T.stable [((a1.add 3), [.slice p9 l10 l11]), ((a1.add 1), [.slice p6 l7 l8])] <|
   T.all [ (T.call Try.prog 31 [.slice p6 l7 l8] false [(false, [.slice 94])] <| fun (p16 : Option Addr) (l17 : Nat) (l18 : Nat) =>
    T.stable [((a1.add 3), [.slice p9 l10 l11]), (a1, [.slice p3 l4 l5])] <|
    T.sem Try.prog (Instr.buildSlice 29 0 #[]) false [(false, [.slice 0])] <| fun (p19 : Option Addr) (l20 : Nat) (l21 : Nat) =>
    T.stable [((a1.add 3), [.slice p9 l10 l11]), ((a1.add 1), [.slice p6 l7 l8]), (a1, [.slice p3 l4 l5])] <|
    T.sem Try.prog (Builtin.append_ #[29, 29] 29 #[.slice p19 l20 l21, .slice p9 l10 l11]) false [(false, [.slice 0])] <| fun (p22 : Option Addr) (l23 : Nat) (l24 : Nat) =>
    T.stable [((a1.add 1), [.slice p6 l7 l8]), (a1, [.slice p3 l4 l5])] <|
    T.stores a12 [.slice p13 l14 l15, .slice p16 l17 l18, .slice none 0 0, .slice p22 l23 l24] <|
    T.loop [(false, [.int .i64])] [.int .i64 (0 : Int)] <| fun (n25 : Int) =>
    T.loads (a1.add 2) [.slice 38] <| fun (p26 : Option Addr) (l27 : Nat) (l28 : Nat) =>
    cond (decide (n25 < (l27 : Int)))
     (T.loads (a12.add 2) [.slice 38] <| fun (p29 : Option Addr) (l30 : Nat) (l31 : Nat) =>
     T.loads (a1.add 2) [.slice 38] <| fun (p32 : Option Addr) (l33 : Nat) (l34 : Nat) =>
     T.need (((0 : Int) ≤ n25) ∧ (n25 < (l33 : Int))) <|
     T.osome p32 <| fun (a35 : Addr) =>
     T.loads (a35.add ((Int.toNat n25) * 3)) [.string] <| fun (s36 : ByteArray) =>
     T.loads (a1.add 2) [.slice 38] <| fun (p37 : Option Addr) (l38 : Nat) (l39 : Nat) =>
     T.need (((0 : Int) ≤ n25) ∧ (n25 < (l38 : Int))) <|
     T.osome p37 <| fun (a40 : Addr) =>
     T.loads ((a40.add ((Int.toNat n25) * 3)).add 1) [.slice 40, .int .u32] <| fun (p41 : Option Addr) (l42 : Nat) (l43 : Nat) (n44 : Int) =>
     T.call Try.prog 32 [.agg #[.slice p41 l42 l43, .int .u32 n44]] false [(true, [.slice 40, .int .u32])] <| fun (p45 : Option Addr) (l46 : Nat) (l47 : Nat) (n48 : Int) =>
     T.stable [((a1.add 2), [.slice p37 l38 l39]), ((a35.add ((Int.toNat n25) * 3)), [.string s36]), ((a1.add 2), [.slice p32 l33 l34]), ((a12.add 2), [.slice p29 l30 l31])] <|
     T.sem Try.prog (Instr.buildSlice 22 1 #[(0, .agg #[.string s36, .slice p45 l46 l47, .int .u32 n48])]) false [(false, [.slice 0])] <| fun (p49 : Option Addr) (l50 : Nat) (l51 : Nat) =>
     T.stable [(((a40.add ((Int.toNat n25) * 3)).add 1), [.slice p41 l42 l43, .int .u32 n44]), ((a1.add 2), [.slice p37 l38 l39]), ((a35.add ((Int.toNat n25) * 3)), [.string s36]), ((a1.add 2), [.slice p32 l33 l34]), ((a12.add 2), [.slice p29 l30 l31])] <|
     T.sem Try.prog (Builtin.append_ #[22, 22] 22 #[.slice p29 l30 l31, .slice p49 l50 l51]) false [(false, [.slice 0])] <| fun (p52 : Option Addr) (l53 : Nat) (l54 : Nat) =>
     T.stable [(((a40.add ((Int.toNat n25) * 3)).add 1), [.slice p41 l42 l43, .int .u32 n44]), ((a1.add 2), [.slice p37 l38 l39]), ((a35.add ((Int.toNat n25) * 3)), [.string s36]), ((a1.add 2), [.slice p32 l33 l34])] <|
     T.stores (a12.add 2) [.slice p52 l53 l54] <|
     T.again 0 [.int .i64 (IntKind.wrap .i64 (n25 + (1 : Int)))])
     (T.loads a12 [.slice 94, .slice 94, .slice 38, .slice 9] <| fun (p29 : Option Addr) (l30 : Nat) (l31 : Nat) (p32 : Option Addr) (l33 : Nat) (l34 : Nat) (p35 : Option Addr) (l36 : Nat) (l37 : Nat) (p38 : Option Addr) (l39 : Nat) (l40 : Nat) =>
     T.stores a2 [.slice p29 l30 l31, .slice p32 l33 l34, .slice p35 l36 l37, .slice p38 l39 l40] <|
     T.loads a2 [.slice 94, .slice 94, .slice 38, .slice 9] <| fun (p41 : Option Addr) (l42 : Nat) (l43 : Nat) (p44 : Option Addr) (l45 : Nat) (l46 : Nat) (p47 : Option Addr) (l48 : Nat) (l49 : Nat) (p50 : Option Addr) (l51 : Nat) (l52 : Nat) =>
     T.ret (.agg #[.slice p41 l42 l43, .slice p44 l45 l46, .slice p47 l48 l49, .slice p50 l51 l52]))),
    (T.sem Try.prog (Instr.buildSlice 29 0 #[]) false [(false, [.slice 0])] <| fun (p16 : Option Addr) (l17 : Nat) (l18 : Nat) =>
    T.stable [((a1.add 3), [.slice p9 l10 l11]), ((a1.add 1), [.slice p6 l7 l8]), (a1, [.slice p3 l4 l5])] <|
    T.call Try.prog 31 [.slice p6 l7 l8] false [(false, [.slice 94])] <| fun (p19 : Option Addr) (l20 : Nat) (l21 : Nat) =>
    T.stable [((a1.add 3), [.slice p9 l10 l11]), (a1, [.slice p3 l4 l5])] <|
    T.sem Try.prog (Builtin.append_ #[29, 29] 29 #[.slice p16 l17 l18, .slice p9 l10 l11]) false [(false, [.slice 0])] <| fun (p22 : Option Addr) (l23 : Nat) (l24 : Nat) =>
    T.stable [((a1.add 1), [.slice p6 l7 l8]), (a1, [.slice p3 l4 l5])] <|
    T.stores a12 [.slice p13 l14 l15, .slice p19 l20 l21, .slice none 0 0, .slice p22 l23 l24] <|
    T.loop [(false, [.int .i64])] [.int .i64 (0 : Int)] <| fun (n25 : Int) =>
    T.loads (a1.add 2) [.slice 38] <| fun (p26 : Option Addr) (l27 : Nat) (l28 : Nat) =>
    cond (decide (n25 < (l27 : Int)))
     (T.loads (a12.add 2) [.slice 38] <| fun (p29 : Option Addr) (l30 : Nat) (l31 : Nat) =>
     T.loads (a1.add 2) [.slice 38] <| fun (p32 : Option Addr) (l33 : Nat) (l34 : Nat) =>
     T.need (((0 : Int) ≤ n25) ∧ (n25 < (l33 : Int))) <|
     T.osome p32 <| fun (a35 : Addr) =>
     T.loads (a35.add ((Int.toNat n25) * 3)) [.string] <| fun (s36 : ByteArray) =>
     T.loads (a1.add 2) [.slice 38] <| fun (p37 : Option Addr) (l38 : Nat) (l39 : Nat) =>
     T.need (((0 : Int) ≤ n25) ∧ (n25 < (l38 : Int))) <|
     T.osome p37 <| fun (a40 : Addr) =>
     T.loads ((a40.add ((Int.toNat n25) * 3)).add 1) [.slice 40, .int .u32] <| fun (p41 : Option Addr) (l42 : Nat) (l43 : Nat) (n44 : Int) =>
     T.call Try.prog 32 [.agg #[.slice p41 l42 l43, .int .u32 n44]] false [(true, [.slice 40, .int .u32])] <| fun (p45 : Option Addr) (l46 : Nat) (l47 : Nat) (n48 : Int) =>
     T.stable [((a1.add 2), [.slice p37 l38 l39]), ((a35.add ((Int.toNat n25) * 3)), [.string s36]), ((a1.add 2), [.slice p32 l33 l34]), ((a12.add 2), [.slice p29 l30 l31])] <|
     T.sem Try.prog (Instr.buildSlice 22 1 #[(0, .agg #[.string s36, .slice p45 l46 l47, .int .u32 n48])]) false [(false, [.slice 0])] <| fun (p49 : Option Addr) (l50 : Nat) (l51 : Nat) =>
     T.stable [(((a40.add ((Int.toNat n25) * 3)).add 1), [.slice p41 l42 l43, .int .u32 n44]), ((a1.add 2), [.slice p37 l38 l39]), ((a35.add ((Int.toNat n25) * 3)), [.string s36]), ((a1.add 2), [.slice p32 l33 l34]), ((a12.add 2), [.slice p29 l30 l31])] <|
     T.sem Try.prog (Builtin.append_ #[22, 22] 22 #[.slice p29 l30 l31, .slice p49 l50 l51]) false [(false, [.slice 0])] <| fun (p52 : Option Addr) (l53 : Nat) (l54 : Nat) =>
     T.stable [(((a40.add ((Int.toNat n25) * 3)).add 1), [.slice p41 l42 l43, .int .u32 n44]), ((a1.add 2), [.slice p37 l38 l39]), ((a35.add ((Int.toNat n25) * 3)), [.string s36]), ((a1.add 2), [.slice p32 l33 l34])] <|
     T.stores (a12.add 2) [.slice p52 l53 l54] <|
     T.again 0 [.int .i64 (IntKind.wrap .i64 (n25 + (1 : Int)))])
     (T.loads a12 [.slice 94, .slice 94, .slice 38, .slice 9] <| fun (p29 : Option Addr) (l30 : Nat) (l31 : Nat) (p32 : Option Addr) (l33 : Nat) (l34 : Nat) (p35 : Option Addr) (l36 : Nat) (l37 : Nat) (p38 : Option Addr) (l39 : Nat) (l40 : Nat) =>
     T.stores a2 [.slice p29 l30 l31, .slice p32 l33 l34, .slice p35 l36 l37, .slice p38 l39 l40] <|
     T.loads a2 [.slice 94, .slice 94, .slice 38, .slice 9] <| fun (p41 : Option Addr) (l42 : Nat) (l43 : Nat) (p44 : Option Addr) (l45 : Nat) (l46 : Nat) (p47 : Option Addr) (l48 : Nat) (l49 : Nat) (p50 : Option Addr) (l51 : Nat) (l52 : Nat) =>
     T.ret (.agg #[.slice p41 l42 l43, .slice p44 l45 l46, .slice p47 l48 l49, .slice p50 l51 l52])))]),
   (T.sem Try.prog (Instr.buildSlice 29 0 #[]) false [(false, [.slice 0])] <| fun (p13 : Option Addr) (l14 : Nat) (l15 : Nat) =>
   T.stable [((a1.add 3), [.slice p9 l10 l11]), ((a1.add 1), [.slice p6 l7 l8]), (a1, [.slice p3 l4 l5])] <|
   T.call Try.prog 31 [.slice p3 l4 l5] false [(false, [.slice 94])] <| fun (p16 : Option Addr) (l17 : Nat) (l18 : Nat) =>
   T.stable [((a1.add 3), [.slice p9 l10 l11]), ((a1.add 1), [.slice p6 l7 l8])] <|
   T.call Try.prog 31 [.slice p6 l7 l8] false [(false, [.slice 94])] <| fun (p19 : Option Addr) (l20 : Nat) (l21 : Nat) =>
   T.stable [((a1.add 3), [.slice p9 l10 l11]), (a1, [.slice p3 l4 l5])] <|
   T.sem Try.prog (Builtin.append_ #[29, 29] 29 #[.slice p13 l14 l15, .slice p9 l10 l11]) false [(false, [.slice 0])] <| fun (p22 : Option Addr) (l23 : Nat) (l24 : Nat) =>
   T.stable [((a1.add 1), [.slice p6 l7 l8]), (a1, [.slice p3 l4 l5])] <|
   T.stores a12 [.slice p16 l17 l18, .slice p19 l20 l21, .slice none 0 0, .slice p22 l23 l24] <|
   T.loop [(false, [.int .i64])] [.int .i64 (0 : Int)] <| fun (n25 : Int) =>
   T.loads (a1.add 2) [.slice 38] <| fun (p26 : Option Addr) (l27 : Nat) (l28 : Nat) =>
   cond (decide (n25 < (l27 : Int)))
    (T.loads (a12.add 2) [.slice 38] <| fun (p29 : Option Addr) (l30 : Nat) (l31 : Nat) =>
    T.loads (a1.add 2) [.slice 38] <| fun (p32 : Option Addr) (l33 : Nat) (l34 : Nat) =>
    T.need (((0 : Int) ≤ n25) ∧ (n25 < (l33 : Int))) <|
    T.osome p32 <| fun (a35 : Addr) =>
    T.loads (a35.add ((Int.toNat n25) * 3)) [.string] <| fun (s36 : ByteArray) =>
    T.loads (a1.add 2) [.slice 38] <| fun (p37 : Option Addr) (l38 : Nat) (l39 : Nat) =>
    T.need (((0 : Int) ≤ n25) ∧ (n25 < (l38 : Int))) <|
    T.osome p37 <| fun (a40 : Addr) =>
    T.loads ((a40.add ((Int.toNat n25) * 3)).add 1) [.slice 40, .int .u32] <| fun (p41 : Option Addr) (l42 : Nat) (l43 : Nat) (n44 : Int) =>
    T.call Try.prog 32 [.agg #[.slice p41 l42 l43, .int .u32 n44]] false [(true, [.slice 40, .int .u32])] <| fun (p45 : Option Addr) (l46 : Nat) (l47 : Nat) (n48 : Int) =>
    T.stable [((a1.add 2), [.slice p37 l38 l39]), ((a35.add ((Int.toNat n25) * 3)), [.string s36]), ((a1.add 2), [.slice p32 l33 l34]), ((a12.add 2), [.slice p29 l30 l31])] <|
    T.sem Try.prog (Instr.buildSlice 22 1 #[(0, .agg #[.string s36, .slice p45 l46 l47, .int .u32 n48])]) false [(false, [.slice 0])] <| fun (p49 : Option Addr) (l50 : Nat) (l51 : Nat) =>
    T.stable [(((a40.add ((Int.toNat n25) * 3)).add 1), [.slice p41 l42 l43, .int .u32 n44]), ((a1.add 2), [.slice p37 l38 l39]), ((a35.add ((Int.toNat n25) * 3)), [.string s36]), ((a1.add 2), [.slice p32 l33 l34]), ((a12.add 2), [.slice p29 l30 l31])] <|
    T.sem Try.prog (Builtin.append_ #[22, 22] 22 #[.slice p29 l30 l31, .slice p49 l50 l51]) false [(false, [.slice 0])] <| fun (p52 : Option Addr) (l53 : Nat) (l54 : Nat) =>
    T.stable [(((a40.add ((Int.toNat n25) * 3)).add 1), [.slice p41 l42 l43, .int .u32 n44]), ((a1.add 2), [.slice p37 l38 l39]), ((a35.add ((Int.toNat n25) * 3)), [.string s36]), ((a1.add 2), [.slice p32 l33 l34])] <|
    T.stores (a12.add 2) [.slice p52 l53 l54] <|
    T.again 0 [.int .i64 (IntKind.wrap .i64 (n25 + (1 : Int)))])
    (T.loads a12 [.slice 94, .slice 94, .slice 38, .slice 9] <| fun (p29 : Option Addr) (l30 : Nat) (l31 : Nat) (p32 : Option Addr) (l33 : Nat) (l34 : Nat) (p35 : Option Addr) (l36 : Nat) (l37 : Nat) (p38 : Option Addr) (l39 : Nat) (l40 : Nat) =>
    T.stores a2 [.slice p29 l30 l31, .slice p32 l33 l34, .slice p35 l36 l37, .slice p38 l39 l40] <|
    T.loads a2 [.slice 94, .slice 94, .slice 38, .slice 9] <| fun (p41 : Option Addr) (l42 : Nat) (l43 : Nat) (p44 : Option Addr) (l45 : Nat) (l46 : Nat) (p47 : Option Addr) (l48 : Nat) (l49 : Nat) (p50 : Option Addr) (l51 : Nat) (l52 : Nat) =>
    T.ret (.agg #[.slice p41 l42 l43, .slice p44 l45 l46, .slice p47 l48 l49, .slice p50 l51 l52])))])]
theorem t_spandrelkeep_CopyUnit_eqs_eq (p : Option Addr) (l : Nat) (c : Nat) : xfun Try.prog [] Try.f13 [.agg #[.slice none 0 0, .slice none 0 0, .slice p l c, .slice none 0 0]] = t_spandrelkeep_CopyUnit_eqs p l c := by kernel_rfl

end Go.Sx
