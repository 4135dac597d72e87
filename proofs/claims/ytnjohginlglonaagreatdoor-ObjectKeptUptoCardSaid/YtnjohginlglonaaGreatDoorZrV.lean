/- Trees of functions, each checked by the kernel against the code. No condition. -/
import Derived.Test.YtnjohginlglonaaGreatDoorSxF
import Derived.Test.YtnjohginlglonaaGreatDoorProg
import Derived.KernelRfl
set_option linter.unusedVariables false
set_option linter.unusedSimpArgs false
set_option linter.deprecated false
set_option maxRecDepth 100000
namespace Go.Sx
open Go.Proofs
/-- The tree of 13. -/
def t_spandrelkeep_CopyUnit (pp00 : Option Addr) (ll00 cc00 : Nat) (pp01 : Option Addr) (ll01 cc01 : Nat) (pp02 : Option Addr) (ll02 cc02 : Nat) (pp03 : Option Addr) (ll03 cc03 : Nat) : T :=
 T.new [.slice pp00 ll00 cc00, .slice pp01 ll01 cc01, .slice pp02 ll02 cc02, .slice pp03 ll03 cc03] 28 <| fun (a1 : Addr) =>
 T.new [.slice none 0 0, .slice none 0 0, .slice none 0 0, .slice none 0 0] 28 <| fun (a2 : Addr) =>
 T.loads a1 [.slice 102] <| fun (p3 : Option Addr) (l4 : Nat) (l5 : Nat) =>
 T.loads (a1.add 1) [.slice 102] <| fun (p6 : Option Addr) (l7 : Nat) (l8 : Nat) =>
 T.loads (a1.add 3) [.slice 9] <| fun (p9 : Option Addr) (l10 : Nat) (l11 : Nat) =>
 T.all [ (T.call Tryz.prog 35 [.slice p3 l4 l5] false [(false, [.slice 102])] <| fun (p12 : Option Addr) (l13 : Nat) (l14 : Nat) =>
  T.stable [((a1.add 3), [.slice p9 l10 l11]), ((a1.add 1), [.slice p6 l7 l8])] <|
  T.all [ (T.call Tryz.prog 35 [.slice p6 l7 l8] false [(false, [.slice 102])] <| fun (p15 : Option Addr) (l16 : Nat) (l17 : Nat) =>
   T.stable [((a1.add 3), [.slice p9 l10 l11]), (a1, [.slice p3 l4 l5])] <|
   T.all [ (T.sem Tryz.prog (Instr.buildSlice 26 0 #[]) false [(false, [.slice 0])] <| fun (p18 : Option Addr) (l19 : Nat) (l20 : Nat) =>
    T.stable [((a1.add 3), [.slice p9 l10 l11]), ((a1.add 1), [.slice p6 l7 l8]), (a1, [.slice p3 l4 l5])] <|
    T.all [ (T.sem Tryz.prog (Builtin.append_ #[26, 26] 26 #[.slice p18 l19 l20, .slice p9 l10 l11]) false [(false, [.slice 0])] <| fun (p21 : Option Addr) (l22 : Nat) (l23 : Nat) =>
     T.stable [((a1.add 1), [.slice p6 l7 l8]), (a1, [.slice p3 l4 l5])] <|
     T.new [.slice none 0 0, .slice none 0 0, .slice none 0 0, .slice none 0 0] 28 <| fun (a24 : Addr) =>
     T.stable [((a1.add 3), [.slice p9 l10 l11]), ((a1.add 1), [.slice p6 l7 l8]), (a1, [.slice p3 l4 l5])] <|
     T.stores a24 [.slice p12 l13 l14, .slice p15 l16 l17, .slice none 0 0, .slice p21 l22 l23] <|
     T.loop [(false, [.int .i64])] [.int .i64 (0 : Int)] <| fun (n25 : Int) =>
     T.loads (a1.add 2) [.slice 78] <| fun (p26 : Option Addr) (l27 : Nat) (l28 : Nat) =>
     cond (decide (n25 < (l27 : Int)))
      (T.loads (a24.add 2) [.slice 78] <| fun (p29 : Option Addr) (l30 : Nat) (l31 : Nat) =>
      T.loads (a1.add 2) [.slice 78] <| fun (p32 : Option Addr) (l33 : Nat) (l34 : Nat) =>
      T.need (((0 : Int) ≤ n25) ∧ (n25 < (l33 : Int))) <|
      T.osome p32 <| fun (a35 : Addr) =>
      T.loads (a35.add ((Int.toNat n25) * 3)) [.string] <| fun (s36 : ByteArray) =>
      T.loads (a1.add 2) [.slice 78] <| fun (p37 : Option Addr) (l38 : Nat) (l39 : Nat) =>
      T.need (((0 : Int) ≤ n25) ∧ (n25 < (l38 : Int))) <|
      T.osome p37 <| fun (a40 : Addr) =>
      T.loads ((a40.add ((Int.toNat n25) * 3)).add 1) [.slice 104, .int .u32] <| fun (p41 : Option Addr) (l42 : Nat) (l43 : Nat) (n44 : Int) =>
      T.call Tryz.prog 36 [.agg #[.slice p41 l42 l43, .int .u32 n44]] false [(true, [.slice 104, .int .u32])] <| fun (p45 : Option Addr) (l46 : Nat) (l47 : Nat) (n48 : Int) =>
      T.stable [((a1.add 2), [.slice p37 l38 l39]), ((a35.add ((Int.toNat n25) * 3)), [.string s36]), ((a1.add 2), [.slice p32 l33 l34]), ((a24.add 2), [.slice p29 l30 l31])] <|
      T.sem Tryz.prog (Instr.buildSlice 25 1 #[(0, .agg #[.string s36, .slice p45 l46 l47, .int .u32 n48])]) false [(false, [.slice 0])] <| fun (p49 : Option Addr) (l50 : Nat) (l51 : Nat) =>
      T.stable [(((a40.add ((Int.toNat n25) * 3)).add 1), [.slice p41 l42 l43, .int .u32 n44]), ((a1.add 2), [.slice p37 l38 l39]), ((a35.add ((Int.toNat n25) * 3)), [.string s36]), ((a1.add 2), [.slice p32 l33 l34]), ((a24.add 2), [.slice p29 l30 l31])] <|
      T.sem Tryz.prog (Builtin.append_ #[25, 25] 25 #[.slice p29 l30 l31, .slice p49 l50 l51]) false [(false, [.slice 0])] <| fun (p52 : Option Addr) (l53 : Nat) (l54 : Nat) =>
      T.stable [(((a40.add ((Int.toNat n25) * 3)).add 1), [.slice p41 l42 l43, .int .u32 n44]), ((a1.add 2), [.slice p37 l38 l39]), ((a35.add ((Int.toNat n25) * 3)), [.string s36]), ((a1.add 2), [.slice p32 l33 l34])] <|
      T.stores (a24.add 2) [.slice p52 l53 l54] <|
      T.again 0 [.int .i64 (IntKind.wrap .i64 (n25 + (1 : Int)))])
      (T.loads a24 [.slice 102, .slice 102, .slice 78, .slice 9] <| fun (p29 : Option Addr) (l30 : Nat) (l31 : Nat) (p32 : Option Addr) (l33 : Nat) (l34 : Nat) (p35 : Option Addr) (l36 : Nat) (l37 : Nat) (p38 : Option Addr) (l39 : Nat) (l40 : Nat) =>
      T.stores a2 [.slice p29 l30 l31, .slice p32 l33 l34, .slice p35 l36 l37, .slice p38 l39 l40] <|
      T.loads a2 [.slice 102, .slice 102, .slice 78, .slice 9] <| fun (p41 : Option Addr) (l42 : Nat) (l43 : Nat) (p44 : Option Addr) (l45 : Nat) (l46 : Nat) (p47 : Option Addr) (l48 : Nat) (l49 : Nat) (p50 : Option Addr) (l51 : Nat) (l52 : Nat) =>
      T.ret (.agg #[.slice p41 l42 l43, .slice p44 l45 l46, .slice p47 l48 l49, .slice p50 l51 l52]))),
     (T.new [.slice none 0 0, .slice none 0 0, .slice none 0 0, .slice none 0 0] 28 <| fun (a21 : Addr) =>
     T.stable [((a1.add 3), [.slice p9 l10 l11]), ((a1.add 1), [.slice p6 l7 l8]), (a1, [.slice p3 l4 l5])] <|
     T.sem Tryz.prog (Builtin.append_ #[26, 26] 26 #[.slice p18 l19 l20, .slice p9 l10 l11]) false [(false, [.slice 0])] <| fun (p22 : Option Addr) (l23 : Nat) (l24 : Nat) =>
     T.stable [((a1.add 1), [.slice p6 l7 l8]), (a1, [.slice p3 l4 l5])] <|
     T.stores a21 [.slice p12 l13 l14, .slice p15 l16 l17, .slice none 0 0, .slice p22 l23 l24] <|
     T.loop [(false, [.int .i64])] [.int .i64 (0 : Int)] <| fun (n25 : Int) =>
     T.loads (a1.add 2) [.slice 78] <| fun (p26 : Option Addr) (l27 : Nat) (l28 : Nat) =>
     cond (decide (n25 < (l27 : Int)))
      (T.loads (a21.add 2) [.slice 78] <| fun (p29 : Option Addr) (l30 : Nat) (l31 : Nat) =>
      T.loads (a1.add 2) [.slice 78] <| fun (p32 : Option Addr) (l33 : Nat) (l34 : Nat) =>
      T.need (((0 : Int) ≤ n25) ∧ (n25 < (l33 : Int))) <|
      T.osome p32 <| fun (a35 : Addr) =>
      T.loads (a35.add ((Int.toNat n25) * 3)) [.string] <| fun (s36 : ByteArray) =>
      T.loads (a1.add 2) [.slice 78] <| fun (p37 : Option Addr) (l38 : Nat) (l39 : Nat) =>
      T.need (((0 : Int) ≤ n25) ∧ (n25 < (l38 : Int))) <|
      T.osome p37 <| fun (a40 : Addr) =>
      T.loads ((a40.add ((Int.toNat n25) * 3)).add 1) [.slice 104, .int .u32] <| fun (p41 : Option Addr) (l42 : Nat) (l43 : Nat) (n44 : Int) =>
      T.call Tryz.prog 36 [.agg #[.slice p41 l42 l43, .int .u32 n44]] false [(true, [.slice 104, .int .u32])] <| fun (p45 : Option Addr) (l46 : Nat) (l47 : Nat) (n48 : Int) =>
      T.stable [((a1.add 2), [.slice p37 l38 l39]), ((a35.add ((Int.toNat n25) * 3)), [.string s36]), ((a1.add 2), [.slice p32 l33 l34]), ((a21.add 2), [.slice p29 l30 l31])] <|
      T.sem Tryz.prog (Instr.buildSlice 25 1 #[(0, .agg #[.string s36, .slice p45 l46 l47, .int .u32 n48])]) false [(false, [.slice 0])] <| fun (p49 : Option Addr) (l50 : Nat) (l51 : Nat) =>
      T.stable [(((a40.add ((Int.toNat n25) * 3)).add 1), [.slice p41 l42 l43, .int .u32 n44]), ((a1.add 2), [.slice p37 l38 l39]), ((a35.add ((Int.toNat n25) * 3)), [.string s36]), ((a1.add 2), [.slice p32 l33 l34]), ((a21.add 2), [.slice p29 l30 l31])] <|
      T.sem Tryz.prog (Builtin.append_ #[25, 25] 25 #[.slice p29 l30 l31, .slice p49 l50 l51]) false [(false, [.slice 0])] <| fun (p52 : Option Addr) (l53 : Nat) (l54 : Nat) =>
      T.stable [(((a40.add ((Int.toNat n25) * 3)).add 1), [.slice p41 l42 l43, .int .u32 n44]), ((a1.add 2), [.slice p37 l38 l39]), ((a35.add ((Int.toNat n25) * 3)), [.string s36]), ((a1.add 2), [.slice p32 l33 l34])] <|
      T.stores (a21.add 2) [.slice p52 l53 l54] <|
      T.again 0 [.int .i64 (IntKind.wrap .i64 (n25 + (1 : Int)))])
      (T.loads a21 [.slice 102, .slice 102, .slice 78, .slice 9] <| fun (p29 : Option Addr) (l30 : Nat) (l31 : Nat) (p32 : Option Addr) (l33 : Nat) (l34 : Nat) (p35 : Option Addr) (l36 : Nat) (l37 : Nat) (p38 : Option Addr) (l39 : Nat) (l40 : Nat) =>
      T.stores a2 [.slice p29 l30 l31, .slice p32 l33 l34, .slice p35 l36 l37, .slice p38 l39 l40] <|
      T.loads a2 [.slice 102, .slice 102, .slice 78, .slice 9] <| fun (p41 : Option Addr) (l42 : Nat) (l43 : Nat) (p44 : Option Addr) (l45 : Nat) (l46 : Nat) (p47 : Option Addr) (l48 : Nat) (l49 : Nat) (p50 : Option Addr) (l51 : Nat) (l52 : Nat) =>
      T.ret (.agg #[.slice p41 l42 l43, .slice p44 l45 l46, .slice p47 l48 l49, .slice p50 l51 l52])))]),
    (T.new [.slice none 0 0, .slice none 0 0, .slice none 0 0, .slice none 0 0] 28 <| fun (a18 : Addr) =>
    T.stable [((a1.add 3), [.slice p9 l10 l11]), ((a1.add 1), [.slice p6 l7 l8]), (a1, [.slice p3 l4 l5])] <|
    T.sem Tryz.prog (Instr.buildSlice 26 0 #[]) false [(false, [.slice 0])] <| fun (p19 : Option Addr) (l20 : Nat) (l21 : Nat) =>
    T.stable [((a1.add 3), [.slice p9 l10 l11]), ((a1.add 1), [.slice p6 l7 l8]), (a1, [.slice p3 l4 l5])] <|
    T.sem Tryz.prog (Builtin.append_ #[26, 26] 26 #[.slice p19 l20 l21, .slice p9 l10 l11]) false [(false, [.slice 0])] <| fun (p22 : Option Addr) (l23 : Nat) (l24 : Nat) =>
    T.stable [((a1.add 1), [.slice p6 l7 l8]), (a1, [.slice p3 l4 l5])] <|
    T.stores a18 [.slice p12 l13 l14, .slice p15 l16 l17, .slice none 0 0, .slice p22 l23 l24] <|
    T.loop [(false, [.int .i64])] [.int .i64 (0 : Int)] <| fun (n25 : Int) =>
    T.loads (a1.add 2) [.slice 78] <| fun (p26 : Option Addr) (l27 : Nat) (l28 : Nat) =>
    cond (decide (n25 < (l27 : Int)))
     (T.loads (a18.add 2) [.slice 78] <| fun (p29 : Option Addr) (l30 : Nat) (l31 : Nat) =>
     T.loads (a1.add 2) [.slice 78] <| fun (p32 : Option Addr) (l33 : Nat) (l34 : Nat) =>
     T.need (((0 : Int) ≤ n25) ∧ (n25 < (l33 : Int))) <|
     T.osome p32 <| fun (a35 : Addr) =>
     T.loads (a35.add ((Int.toNat n25) * 3)) [.string] <| fun (s36 : ByteArray) =>
     T.loads (a1.add 2) [.slice 78] <| fun (p37 : Option Addr) (l38 : Nat) (l39 : Nat) =>
     T.need (((0 : Int) ≤ n25) ∧ (n25 < (l38 : Int))) <|
     T.osome p37 <| fun (a40 : Addr) =>
     T.loads ((a40.add ((Int.toNat n25) * 3)).add 1) [.slice 104, .int .u32] <| fun (p41 : Option Addr) (l42 : Nat) (l43 : Nat) (n44 : Int) =>
     T.call Tryz.prog 36 [.agg #[.slice p41 l42 l43, .int .u32 n44]] false [(true, [.slice 104, .int .u32])] <| fun (p45 : Option Addr) (l46 : Nat) (l47 : Nat) (n48 : Int) =>
     T.stable [((a1.add 2), [.slice p37 l38 l39]), ((a35.add ((Int.toNat n25) * 3)), [.string s36]), ((a1.add 2), [.slice p32 l33 l34]), ((a18.add 2), [.slice p29 l30 l31])] <|
     T.sem Tryz.prog (Instr.buildSlice 25 1 #[(0, .agg #[.string s36, .slice p45 l46 l47, .int .u32 n48])]) false [(false, [.slice 0])] <| fun (p49 : Option Addr) (l50 : Nat) (l51 : Nat) =>
     T.stable [(((a40.add ((Int.toNat n25) * 3)).add 1), [.slice p41 l42 l43, .int .u32 n44]), ((a1.add 2), [.slice p37 l38 l39]), ((a35.add ((Int.toNat n25) * 3)), [.string s36]), ((a1.add 2), [.slice p32 l33 l34]), ((a18.add 2), [.slice p29 l30 l31])] <|
     T.sem Tryz.prog (Builtin.append_ #[25, 25] 25 #[.slice p29 l30 l31, .slice p49 l50 l51]) false [(false, [.slice 0])] <| fun (p52 : Option Addr) (l53 : Nat) (l54 : Nat) =>
     T.stable [(((a40.add ((Int.toNat n25) * 3)).add 1), [.slice p41 l42 l43, .int .u32 n44]), ((a1.add 2), [.slice p37 l38 l39]), ((a35.add ((Int.toNat n25) * 3)), [.string s36]), ((a1.add 2), [.slice p32 l33 l34])] <|
     T.stores (a18.add 2) [.slice p52 l53 l54] <|
     T.again 0 [.int .i64 (IntKind.wrap .i64 (n25 + (1 : Int)))])
     (T.loads a18 [.slice 102, .slice 102, .slice 78, .slice 9] <| fun (p29 : Option Addr) (l30 : Nat) (l31 : Nat) (p32 : Option Addr) (l33 : Nat) (l34 : Nat) (p35 : Option Addr) (l36 : Nat) (l37 : Nat) (p38 : Option Addr) (l39 : Nat) (l40 : Nat) =>
     T.stores a2 [.slice p29 l30 l31, .slice p32 l33 l34, .slice p35 l36 l37, .slice p38 l39 l40] <|
     T.loads a2 [.slice 102, .slice 102, .slice 78, .slice 9] <| fun (p41 : Option Addr) (l42 : Nat) (l43 : Nat) (p44 : Option Addr) (l45 : Nat) (l46 : Nat) (p47 : Option Addr) (l48 : Nat) (l49 : Nat) (p50 : Option Addr) (l51 : Nat) (l52 : Nat) =>
     T.ret (.agg #[.slice p41 l42 l43, .slice p44 l45 l46, .slice p47 l48 l49, .slice p50 l51 l52])))]),
   (T.sem Tryz.prog (Instr.buildSlice 26 0 #[]) false [(false, [.slice 0])] <| fun (p15 : Option Addr) (l16 : Nat) (l17 : Nat) =>
   T.stable [((a1.add 3), [.slice p9 l10 l11]), ((a1.add 1), [.slice p6 l7 l8]), (a1, [.slice p3 l4 l5])] <|
   T.all [ (T.call Tryz.prog 35 [.slice p6 l7 l8] false [(false, [.slice 102])] <| fun (p18 : Option Addr) (l19 : Nat) (l20 : Nat) =>
    T.stable [((a1.add 3), [.slice p9 l10 l11]), (a1, [.slice p3 l4 l5])] <|
    T.all [ (T.sem Tryz.prog (Builtin.append_ #[26, 26] 26 #[.slice p15 l16 l17, .slice p9 l10 l11]) false [(false, [.slice 0])] <| fun (p21 : Option Addr) (l22 : Nat) (l23 : Nat) =>
     T.stable [((a1.add 1), [.slice p6 l7 l8]), (a1, [.slice p3 l4 l5])] <|
     T.new [.slice none 0 0, .slice none 0 0, .slice none 0 0, .slice none 0 0] 28 <| fun (a24 : Addr) =>
     T.stable [((a1.add 3), [.slice p9 l10 l11]), ((a1.add 1), [.slice p6 l7 l8]), (a1, [.slice p3 l4 l5])] <|
     T.stores a24 [.slice p12 l13 l14, .slice p18 l19 l20, .slice none 0 0, .slice p21 l22 l23] <|
     T.loop [(false, [.int .i64])] [.int .i64 (0 : Int)] <| fun (n25 : Int) =>
     T.loads (a1.add 2) [.slice 78] <| fun (p26 : Option Addr) (l27 : Nat) (l28 : Nat) =>
     cond (decide (n25 < (l27 : Int)))
      (T.loads (a24.add 2) [.slice 78] <| fun (p29 : Option Addr) (l30 : Nat) (l31 : Nat) =>
      T.loads (a1.add 2) [.slice 78] <| fun (p32 : Option Addr) (l33 : Nat) (l34 : Nat) =>
      T.need (((0 : Int) ≤ n25) ∧ (n25 < (l33 : Int))) <|
      T.osome p32 <| fun (a35 : Addr) =>
      T.loads (a35.add ((Int.toNat n25) * 3)) [.string] <| fun (s36 : ByteArray) =>
      T.loads (a1.add 2) [.slice 78] <| fun (p37 : Option Addr) (l38 : Nat) (l39 : Nat) =>
      T.need (((0 : Int) ≤ n25) ∧ (n25 < (l38 : Int))) <|
      T.osome p37 <| fun (a40 : Addr) =>
      T.loads ((a40.add ((Int.toNat n25) * 3)).add 1) [.slice 104, .int .u32] <| fun (p41 : Option Addr) (l42 : Nat) (l43 : Nat) (n44 : Int) =>
      T.call Tryz.prog 36 [.agg #[.slice p41 l42 l43, .int .u32 n44]] false [(true, [.slice 104, .int .u32])] <| fun (p45 : Option Addr) (l46 : Nat) (l47 : Nat) (n48 : Int) =>
      T.stable [((a1.add 2), [.slice p37 l38 l39]), ((a35.add ((Int.toNat n25) * 3)), [.string s36]), ((a1.add 2), [.slice p32 l33 l34]), ((a24.add 2), [.slice p29 l30 l31])] <|
      T.sem Tryz.prog (Instr.buildSlice 25 1 #[(0, .agg #[.string s36, .slice p45 l46 l47, .int .u32 n48])]) false [(false, [.slice 0])] <| fun (p49 : Option Addr) (l50 : Nat) (l51 : Nat) =>
      T.stable [(((a40.add ((Int.toNat n25) * 3)).add 1), [.slice p41 l42 l43, .int .u32 n44]), ((a1.add 2), [.slice p37 l38 l39]), ((a35.add ((Int.toNat n25) * 3)), [.string s36]), ((a1.add 2), [.slice p32 l33 l34]), ((a24.add 2), [.slice p29 l30 l31])] <|
      T.sem Tryz.prog (Builtin.append_ #[25, 25] 25 #[.slice p29 l30 l31, .slice p49 l50 l51]) false [(false, [.slice 0])] <| fun (p52 : Option Addr) (l53 : Nat) (l54 : Nat) =>
      T.stable [(((a40.add ((Int.toNat n25) * 3)).add 1), [.slice p41 l42 l43, .int .u32 n44]), ((a1.add 2), [.slice p37 l38 l39]), ((a35.add ((Int.toNat n25) * 3)), [.string s36]), ((a1.add 2), [.slice p32 l33 l34])] <|
      T.stores (a24.add 2) [.slice p52 l53 l54] <|
      T.again 0 [.int .i64 (IntKind.wrap .i64 (n25 + (1 : Int)))])
      (T.loads a24 [.slice 102, .slice 102, .slice 78, .slice 9] <| fun (p29 : Option Addr) (l30 : Nat) (l31 : Nat) (p32 : Option Addr) (l33 : Nat) (l34 : Nat) (p35 : Option Addr) (l36 : Nat) (l37 : Nat) (p38 : Option Addr) (l39 : Nat) (l40 : Nat) =>
      T.stores a2 [.slice p29 l30 l31, .slice p32 l33 l34, .slice p35 l36 l37, .slice p38 l39 l40] <|
      T.loads a2 [.slice 102, .slice 102, .slice 78, .slice 9] <| fun (p41 : Option Addr) (l42 : Nat) (l43 : Nat) (p44 : Option Addr) (l45 : Nat) (l46 : Nat) (p47 : Option Addr) (l48 : Nat) (l49 : Nat) (p50 : Option Addr) (l51 : Nat) (l52 : Nat) =>
      T.ret (.agg #[.slice p41 l42 l43, .slice p44 l45 l46, .slice p47 l48 l49, .slice p50 l51 l52]))),
     (T.new [.slice none 0 0, .slice none 0 0, .slice none 0 0, .slice none 0 0] 28 <| fun (a21 : Addr) =>
     T.stable [((a1.add 3), [.slice p9 l10 l11]), ((a1.add 1), [.slice p6 l7 l8]), (a1, [.slice p3 l4 l5])] <|
     T.sem Tryz.prog (Builtin.append_ #[26, 26] 26 #[.slice p15 l16 l17, .slice p9 l10 l11]) false [(false, [.slice 0])] <| fun (p22 : Option Addr) (l23 : Nat) (l24 : Nat) =>
     T.stable [((a1.add 1), [.slice p6 l7 l8]), (a1, [.slice p3 l4 l5])] <|
     T.stores a21 [.slice p12 l13 l14, .slice p18 l19 l20, .slice none 0 0, .slice p22 l23 l24] <|
     T.loop [(false, [.int .i64])] [.int .i64 (0 : Int)] <| fun (n25 : Int) =>
     T.loads (a1.add 2) [.slice 78] <| fun (p26 : Option Addr) (l27 : Nat) (l28 : Nat) =>
     cond (decide (n25 < (l27 : Int)))
      (T.loads (a21.add 2) [.slice 78] <| fun (p29 : Option Addr) (l30 : Nat) (l31 : Nat) =>
      T.loads (a1.add 2) [.slice 78] <| fun (p32 : Option Addr) (l33 : Nat) (l34 : Nat) =>
      T.need (((0 : Int) ≤ n25) ∧ (n25 < (l33 : Int))) <|
      T.osome p32 <| fun (a35 : Addr) =>
      T.loads (a35.add ((Int.toNat n25) * 3)) [.string] <| fun (s36 : ByteArray) =>
      T.loads (a1.add 2) [.slice 78] <| fun (p37 : Option Addr) (l38 : Nat) (l39 : Nat) =>
      T.need (((0 : Int) ≤ n25) ∧ (n25 < (l38 : Int))) <|
      T.osome p37 <| fun (a40 : Addr) =>
      T.loads ((a40.add ((Int.toNat n25) * 3)).add 1) [.slice 104, .int .u32] <| fun (p41 : Option Addr) (l42 : Nat) (l43 : Nat) (n44 : Int) =>
      T.call Tryz.prog 36 [.agg #[.slice p41 l42 l43, .int .u32 n44]] false [(true, [.slice 104, .int .u32])] <| fun (p45 : Option Addr) (l46 : Nat) (l47 : Nat) (n48 : Int) =>
      T.stable [((a1.add 2), [.slice p37 l38 l39]), ((a35.add ((Int.toNat n25) * 3)), [.string s36]), ((a1.add 2), [.slice p32 l33 l34]), ((a21.add 2), [.slice p29 l30 l31])] <|
      T.sem Tryz.prog (Instr.buildSlice 25 1 #[(0, .agg #[.string s36, .slice p45 l46 l47, .int .u32 n48])]) false [(false, [.slice 0])] <| fun (p49 : Option Addr) (l50 : Nat) (l51 : Nat) =>
      T.stable [(((a40.add ((Int.toNat n25) * 3)).add 1), [.slice p41 l42 l43, .int .u32 n44]), ((a1.add 2), [.slice p37 l38 l39]), ((a35.add ((Int.toNat n25) * 3)), [.string s36]), ((a1.add 2), [.slice p32 l33 l34]), ((a21.add 2), [.slice p29 l30 l31])] <|
      T.sem Tryz.prog (Builtin.append_ #[25, 25] 25 #[.slice p29 l30 l31, .slice p49 l50 l51]) false [(false, [.slice 0])] <| fun (p52 : Option Addr) (l53 : Nat) (l54 : Nat) =>
      T.stable [(((a40.add ((Int.toNat n25) * 3)).add 1), [.slice p41 l42 l43, .int .u32 n44]), ((a1.add 2), [.slice p37 l38 l39]), ((a35.add ((Int.toNat n25) * 3)), [.string s36]), ((a1.add 2), [.slice p32 l33 l34])] <|
      T.stores (a21.add 2) [.slice p52 l53 l54] <|
      T.again 0 [.int .i64 (IntKind.wrap .i64 (n25 + (1 : Int)))])
      (T.loads a21 [.slice 102, .slice 102, .slice 78, .slice 9] <| fun (p29 : Option Addr) (l30 : Nat) (l31 : Nat) (p32 : Option Addr) (l33 : Nat) (l34 : Nat) (p35 : Option Addr) (l36 : Nat) (l37 : Nat) (p38 : Option Addr) (l39 : Nat) (l40 : Nat) =>
      T.stores a2 [.slice p29 l30 l31, .slice p32 l33 l34, .slice p35 l36 l37, .slice p38 l39 l40] <|
      T.loads a2 [.slice 102, .slice 102, .slice 78, .slice 9] <| fun (p41 : Option Addr) (l42 : Nat) (l43 : Nat) (p44 : Option Addr) (l45 : Nat) (l46 : Nat) (p47 : Option Addr) (l48 : Nat) (l49 : Nat) (p50 : Option Addr) (l51 : Nat) (l52 : Nat) =>
      T.ret (.agg #[.slice p41 l42 l43, .slice p44 l45 l46, .slice p47 l48 l49, .slice p50 l51 l52])))]),
    (T.new [.slice none 0 0, .slice none 0 0, .slice none 0 0, .slice none 0 0] 28 <| fun (a18 : Addr) =>
    T.stable [((a1.add 3), [.slice p9 l10 l11]), ((a1.add 1), [.slice p6 l7 l8]), (a1, [.slice p3 l4 l5])] <|
    T.call Tryz.prog 35 [.slice p6 l7 l8] false [(false, [.slice 102])] <| fun (p19 : Option Addr) (l20 : Nat) (l21 : Nat) =>
    T.stable [((a1.add 3), [.slice p9 l10 l11]), (a1, [.slice p3 l4 l5])] <|
    T.sem Tryz.prog (Builtin.append_ #[26, 26] 26 #[.slice p15 l16 l17, .slice p9 l10 l11]) false [(false, [.slice 0])] <| fun (p22 : Option Addr) (l23 : Nat) (l24 : Nat) =>
    T.stable [((a1.add 1), [.slice p6 l7 l8]), (a1, [.slice p3 l4 l5])] <|
    T.stores a18 [.slice p12 l13 l14, .slice p19 l20 l21, .slice none 0 0, .slice p22 l23 l24] <|
    T.loop [(false, [.int .i64])] [.int .i64 (0 : Int)] <| fun (n25 : Int) =>
    T.loads (a1.add 2) [.slice 78] <| fun (p26 : Option Addr) (l27 : Nat) (l28 : Nat) =>
    cond (decide (n25 < (l27 : Int)))
     (T.loads (a18.add 2) [.slice 78] <| fun (p29 : Option Addr) (l30 : Nat) (l31 : Nat) =>
     T.loads (a1.add 2) [.slice 78] <| fun (p32 : Option Addr) (l33 : Nat) (l34 : Nat) =>
     T.need (((0 : Int) ≤ n25) ∧ (n25 < (l33 : Int))) <|
     T.osome p32 <| fun (a35 : Addr) =>
     T.loads (a35.add ((Int.toNat n25) * 3)) [.string] <| fun (s36 : ByteArray) =>
     T.loads (a1.add 2) [.slice 78] <| fun (p37 : Option Addr) (l38 : Nat) (l39 : Nat) =>
     T.need (((0 : Int) ≤ n25) ∧ (n25 < (l38 : Int))) <|
     T.osome p37 <| fun (a40 : Addr) =>
     T.loads ((a40.add ((Int.toNat n25) * 3)).add 1) [.slice 104, .int .u32] <| fun (p41 : Option Addr) (l42 : Nat) (l43 : Nat) (n44 : Int) =>
     T.call Tryz.prog 36 [.agg #[.slice p41 l42 l43, .int .u32 n44]] false [(true, [.slice 104, .int .u32])] <| fun (p45 : Option Addr) (l46 : Nat) (l47 : Nat) (n48 : Int) =>
     T.stable [((a1.add 2), [.slice p37 l38 l39]), ((a35.add ((Int.toNat n25) * 3)), [.string s36]), ((a1.add 2), [.slice p32 l33 l34]), ((a18.add 2), [.slice p29 l30 l31])] <|
     T.sem Tryz.prog (Instr.buildSlice 25 1 #[(0, .agg #[.string s36, .slice p45 l46 l47, .int .u32 n48])]) false [(false, [.slice 0])] <| fun (p49 : Option Addr) (l50 : Nat) (l51 : Nat) =>
     T.stable [(((a40.add ((Int.toNat n25) * 3)).add 1), [.slice p41 l42 l43, .int .u32 n44]), ((a1.add 2), [.slice p37 l38 l39]), ((a35.add ((Int.toNat n25) * 3)), [.string s36]), ((a1.add 2), [.slice p32 l33 l34]), ((a18.add 2), [.slice p29 l30 l31])] <|
     T.sem Tryz.prog (Builtin.append_ #[25, 25] 25 #[.slice p29 l30 l31, .slice p49 l50 l51]) false [(false, [.slice 0])] <| fun (p52 : Option Addr) (l53 : Nat) (l54 : Nat) =>
     T.stable [(((a40.add ((Int.toNat n25) * 3)).add 1), [.slice p41 l42 l43, .int .u32 n44]), ((a1.add 2), [.slice p37 l38 l39]), ((a35.add ((Int.toNat n25) * 3)), [.string s36]), ((a1.add 2), [.slice p32 l33 l34])] <|
     T.stores (a18.add 2) [.slice p52 l53 l54] <|
     T.again 0 [.int .i64 (IntKind.wrap .i64 (n25 + (1 : Int)))])
     (T.loads a18 [.slice 102, .slice 102, .slice 78, .slice 9] <| fun (p29 : Option Addr) (l30 : Nat) (l31 : Nat) (p32 : Option Addr) (l33 : Nat) (l34 : Nat) (p35 : Option Addr) (l36 : Nat) (l37 : Nat) (p38 : Option Addr) (l39 : Nat) (l40 : Nat) =>
     T.stores a2 [.slice p29 l30 l31, .slice p32 l33 l34, .slice p35 l36 l37, .slice p38 l39 l40] <|
     T.loads a2 [.slice 102, .slice 102, .slice 78, .slice 9] <| fun (p41 : Option Addr) (l42 : Nat) (l43 : Nat) (p44 : Option Addr) (l45 : Nat) (l46 : Nat) (p47 : Option Addr) (l48 : Nat) (l49 : Nat) (p50 : Option Addr) (l51 : Nat) (l52 : Nat) =>
     T.ret (.agg #[.slice p41 l42 l43, .slice p44 l45 l46, .slice p47 l48 l49, .slice p50 l51 l52])))]),
   (T.new [.slice none 0 0, .slice none 0 0, .slice none 0 0, .slice none 0 0] 28 <| fun (a15 : Addr) =>
   T.stable [((a1.add 3), [.slice p9 l10 l11]), ((a1.add 1), [.slice p6 l7 l8]), (a1, [.slice p3 l4 l5])] <|
   T.all [ (T.call Tryz.prog 35 [.slice p6 l7 l8] false [(false, [.slice 102])] <| fun (p16 : Option Addr) (l17 : Nat) (l18 : Nat) =>
    T.stable [((a1.add 3), [.slice p9 l10 l11]), (a1, [.slice p3 l4 l5])] <|
    T.sem Tryz.prog (Instr.buildSlice 26 0 #[]) false [(false, [.slice 0])] <| fun (p19 : Option Addr) (l20 : Nat) (l21 : Nat) =>
    T.stable [((a1.add 3), [.slice p9 l10 l11]), ((a1.add 1), [.slice p6 l7 l8]), (a1, [.slice p3 l4 l5])] <|
    T.sem Tryz.prog (Builtin.append_ #[26, 26] 26 #[.slice p19 l20 l21, .slice p9 l10 l11]) false [(false, [.slice 0])] <| fun (p22 : Option Addr) (l23 : Nat) (l24 : Nat) =>
    T.stable [((a1.add 1), [.slice p6 l7 l8]), (a1, [.slice p3 l4 l5])] <|
    T.stores a15 [.slice p12 l13 l14, .slice p16 l17 l18, .slice none 0 0, .slice p22 l23 l24] <|
    T.loop [(false, [.int .i64])] [.int .i64 (0 : Int)] <| fun (n25 : Int) =>
    T.loads (a1.add 2) [.slice 78] <| fun (p26 : Option Addr) (l27 : Nat) (l28 : Nat) =>
    cond (decide (n25 < (l27 : Int)))
     (T.loads (a15.add 2) [.slice 78] <| fun (p29 : Option Addr) (l30 : Nat) (l31 : Nat) =>
     T.loads (a1.add 2) [.slice 78] <| fun (p32 : Option Addr) (l33 : Nat) (l34 : Nat) =>
     T.need (((0 : Int) ≤ n25) ∧ (n25 < (l33 : Int))) <|
     T.osome p32 <| fun (a35 : Addr) =>
     T.loads (a35.add ((Int.toNat n25) * 3)) [.string] <| fun (s36 : ByteArray) =>
     T.loads (a1.add 2) [.slice 78] <| fun (p37 : Option Addr) (l38 : Nat) (l39 : Nat) =>
     T.need (((0 : Int) ≤ n25) ∧ (n25 < (l38 : Int))) <|
     T.osome p37 <| fun (a40 : Addr) =>
     T.loads ((a40.add ((Int.toNat n25) * 3)).add 1) [.slice 104, .int .u32] <| fun (p41 : Option Addr) (l42 : Nat) (l43 : Nat) (n44 : Int) =>
     T.call Tryz.prog 36 [.agg #[.slice p41 l42 l43, .int .u32 n44]] false [(true, [.slice 104, .int .u32])] <| fun (p45 : Option Addr) (l46 : Nat) (l47 : Nat) (n48 : Int) =>
     T.stable [((a1.add 2), [.slice p37 l38 l39]), ((a35.add ((Int.toNat n25) * 3)), [.string s36]), ((a1.add 2), [.slice p32 l33 l34]), ((a15.add 2), [.slice p29 l30 l31])] <|
     T.sem Tryz.prog (Instr.buildSlice 25 1 #[(0, .agg #[.string s36, .slice p45 l46 l47, .int .u32 n48])]) false [(false, [.slice 0])] <| fun (p49 : Option Addr) (l50 : Nat) (l51 : Nat) =>
     T.stable [(((a40.add ((Int.toNat n25) * 3)).add 1), [.slice p41 l42 l43, .int .u32 n44]), ((a1.add 2), [.slice p37 l38 l39]), ((a35.add ((Int.toNat n25) * 3)), [.string s36]), ((a1.add 2), [.slice p32 l33 l34]), ((a15.add 2), [.slice p29 l30 l31])] <|
     T.sem Tryz.prog (Builtin.append_ #[25, 25] 25 #[.slice p29 l30 l31, .slice p49 l50 l51]) false [(false, [.slice 0])] <| fun (p52 : Option Addr) (l53 : Nat) (l54 : Nat) =>
     T.stable [(((a40.add ((Int.toNat n25) * 3)).add 1), [.slice p41 l42 l43, .int .u32 n44]), ((a1.add 2), [.slice p37 l38 l39]), ((a35.add ((Int.toNat n25) * 3)), [.string s36]), ((a1.add 2), [.slice p32 l33 l34])] <|
     T.stores (a15.add 2) [.slice p52 l53 l54] <|
     T.again 0 [.int .i64 (IntKind.wrap .i64 (n25 + (1 : Int)))])
     (T.loads a15 [.slice 102, .slice 102, .slice 78, .slice 9] <| fun (p29 : Option Addr) (l30 : Nat) (l31 : Nat) (p32 : Option Addr) (l33 : Nat) (l34 : Nat) (p35 : Option Addr) (l36 : Nat) (l37 : Nat) (p38 : Option Addr) (l39 : Nat) (l40 : Nat) =>
     T.stores a2 [.slice p29 l30 l31, .slice p32 l33 l34, .slice p35 l36 l37, .slice p38 l39 l40] <|
     T.loads a2 [.slice 102, .slice 102, .slice 78, .slice 9] <| fun (p41 : Option Addr) (l42 : Nat) (l43 : Nat) (p44 : Option Addr) (l45 : Nat) (l46 : Nat) (p47 : Option Addr) (l48 : Nat) (l49 : Nat) (p50 : Option Addr) (l51 : Nat) (l52 : Nat) =>
     T.ret (.agg #[.slice p41 l42 l43, .slice p44 l45 l46, .slice p47 l48 l49, .slice p50 l51 l52]))),
    (T.sem Tryz.prog (Instr.buildSlice 26 0 #[]) false [(false, [.slice 0])] <| fun (p16 : Option Addr) (l17 : Nat) (l18 : Nat) =>
    T.stable [((a1.add 3), [.slice p9 l10 l11]), ((a1.add 1), [.slice p6 l7 l8]), (a1, [.slice p3 l4 l5])] <|
    T.call Tryz.prog 35 [.slice p6 l7 l8] false [(false, [.slice 102])] <| fun (p19 : Option Addr) (l20 : Nat) (l21 : Nat) =>
    T.stable [((a1.add 3), [.slice p9 l10 l11]), (a1, [.slice p3 l4 l5])] <|
    T.sem Tryz.prog (Builtin.append_ #[26, 26] 26 #[.slice p16 l17 l18, .slice p9 l10 l11]) false [(false, [.slice 0])] <| fun (p22 : Option Addr) (l23 : Nat) (l24 : Nat) =>
    T.stable [((a1.add 1), [.slice p6 l7 l8]), (a1, [.slice p3 l4 l5])] <|
    T.stores a15 [.slice p12 l13 l14, .slice p19 l20 l21, .slice none 0 0, .slice p22 l23 l24] <|
    T.loop [(false, [.int .i64])] [.int .i64 (0 : Int)] <| fun (n25 : Int) =>
    T.loads (a1.add 2) [.slice 78] <| fun (p26 : Option Addr) (l27 : Nat) (l28 : Nat) =>
    cond (decide (n25 < (l27 : Int)))
     (T.loads (a15.add 2) [.slice 78] <| fun (p29 : Option Addr) (l30 : Nat) (l31 : Nat) =>
     T.loads (a1.add 2) [.slice 78] <| fun (p32 : Option Addr) (l33 : Nat) (l34 : Nat) =>
     T.need (((0 : Int) ≤ n25) ∧ (n25 < (l33 : Int))) <|
     T.osome p32 <| fun (a35 : Addr) =>
     T.loads (a35.add ((Int.toNat n25) * 3)) [.string] <| fun (s36 : ByteArray) =>
     T.loads (a1.add 2) [.slice 78] <| fun (p37 : Option Addr) (l38 : Nat) (l39 : Nat) =>
     T.need (((0 : Int) ≤ n25) ∧ (n25 < (l38 : Int))) <|
     T.osome p37 <| fun (a40 : Addr) =>
     T.loads ((a40.add ((Int.toNat n25) * 3)).add 1) [.slice 104, .int .u32] <| fun (p41 : Option Addr) (l42 : Nat) (l43 : Nat) (n44 : Int) =>
     T.call Tryz.prog 36 [.agg #[.slice p41 l42 l43, .int .u32 n44]] false [(true, [.slice 104, .int .u32])] <| fun (p45 : Option Addr) (l46 : Nat) (l47 : Nat) (n48 : Int) =>
     T.stable [((a1.add 2), [.slice p37 l38 l39]), ((a35.add ((Int.toNat n25) * 3)), [.string s36]), ((a1.add 2), [.slice p32 l33 l34]), ((a15.add 2), [.slice p29 l30 l31])] <|
     T.sem Tryz.prog (Instr.buildSlice 25 1 #[(0, .agg #[.string s36, .slice p45 l46 l47, .int .u32 n48])]) false [(false, [.slice 0])] <| fun (p49 : Option Addr) (l50 : Nat) (l51 : Nat) =>
     T.stable [(((a40.add ((Int.toNat n25) * 3)).add 1), [.slice p41 l42 l43, .int .u32 n44]), ((a1.add 2), [.slice p37 l38 l39]), ((a35.add ((Int.toNat n25) * 3)), [.string s36]), ((a1.add 2), [.slice p32 l33 l34]), ((a15.add 2), [.slice p29 l30 l31])] <|
     T.sem Tryz.prog (Builtin.append_ #[25, 25] 25 #[.slice p29 l30 l31, .slice p49 l50 l51]) false [(false, [.slice 0])] <| fun (p52 : Option Addr) (l53 : Nat) (l54 : Nat) =>
     T.stable [(((a40.add ((Int.toNat n25) * 3)).add 1), [.slice p41 l42 l43, .int .u32 n44]), ((a1.add 2), [.slice p37 l38 l39]), ((a35.add ((Int.toNat n25) * 3)), [.string s36]), ((a1.add 2), [.slice p32 l33 l34])] <|
     T.stores (a15.add 2) [.slice p52 l53 l54] <|
     T.again 0 [.int .i64 (IntKind.wrap .i64 (n25 + (1 : Int)))])
     (T.loads a15 [.slice 102, .slice 102, .slice 78, .slice 9] <| fun (p29 : Option Addr) (l30 : Nat) (l31 : Nat) (p32 : Option Addr) (l33 : Nat) (l34 : Nat) (p35 : Option Addr) (l36 : Nat) (l37 : Nat) (p38 : Option Addr) (l39 : Nat) (l40 : Nat) =>
     T.stores a2 [.slice p29 l30 l31, .slice p32 l33 l34, .slice p35 l36 l37, .slice p38 l39 l40] <|
     T.loads a2 [.slice 102, .slice 102, .slice 78, .slice 9] <| fun (p41 : Option Addr) (l42 : Nat) (l43 : Nat) (p44 : Option Addr) (l45 : Nat) (l46 : Nat) (p47 : Option Addr) (l48 : Nat) (l49 : Nat) (p50 : Option Addr) (l51 : Nat) (l52 : Nat) =>
     T.ret (.agg #[.slice p41 l42 l43, .slice p44 l45 l46, .slice p47 l48 l49, .slice p50 l51 l52])))])]),
  (T.sem Tryz.prog (Instr.buildSlice 26 0 #[]) false [(false, [.slice 0])] <| fun (p12 : Option Addr) (l13 : Nat) (l14 : Nat) =>
  T.stable [((a1.add 3), [.slice p9 l10 l11]), ((a1.add 1), [.slice p6 l7 l8]), (a1, [.slice p3 l4 l5])] <|
  T.all [ (T.call Tryz.prog 35 [.slice p3 l4 l5] false [(false, [.slice 102])] <| fun (p15 : Option Addr) (l16 : Nat) (l17 : Nat) =>
   T.stable [((a1.add 3), [.slice p9 l10 l11]), ((a1.add 1), [.slice p6 l7 l8])] <|
   T.all [ (T.call Tryz.prog 35 [.slice p6 l7 l8] false [(false, [.slice 102])] <| fun (p18 : Option Addr) (l19 : Nat) (l20 : Nat) =>
    T.stable [((a1.add 3), [.slice p9 l10 l11]), (a1, [.slice p3 l4 l5])] <|
    T.all [ (T.sem Tryz.prog (Builtin.append_ #[26, 26] 26 #[.slice p12 l13 l14, .slice p9 l10 l11]) false [(false, [.slice 0])] <| fun (p21 : Option Addr) (l22 : Nat) (l23 : Nat) =>
     T.stable [((a1.add 1), [.slice p6 l7 l8]), (a1, [.slice p3 l4 l5])] <|
     T.new [.slice none 0 0, .slice none 0 0, .slice none 0 0, .slice none 0 0] 28 <| fun (a24 : Addr) =>
     T.stable [((a1.add 3), [.slice p9 l10 l11]), ((a1.add 1), [.slice p6 l7 l8]), (a1, [.slice p3 l4 l5])] <|
     T.stores a24 [.slice p15 l16 l17, .slice p18 l19 l20, .slice none 0 0, .slice p21 l22 l23] <|
     T.loop [(false, [.int .i64])] [.int .i64 (0 : Int)] <| fun (n25 : Int) =>
     T.loads (a1.add 2) [.slice 78] <| fun (p26 : Option Addr) (l27 : Nat) (l28 : Nat) =>
     cond (decide (n25 < (l27 : Int)))
      (T.loads (a24.add 2) [.slice 78] <| fun (p29 : Option Addr) (l30 : Nat) (l31 : Nat) =>
      T.loads (a1.add 2) [.slice 78] <| fun (p32 : Option Addr) (l33 : Nat) (l34 : Nat) =>
      T.need (((0 : Int) ≤ n25) ∧ (n25 < (l33 : Int))) <|
      T.osome p32 <| fun (a35 : Addr) =>
      T.loads (a35.add ((Int.toNat n25) * 3)) [.string] <| fun (s36 : ByteArray) =>
      T.loads (a1.add 2) [.slice 78] <| fun (p37 : Option Addr) (l38 : Nat) (l39 : Nat) =>
      T.need (((0 : Int) ≤ n25) ∧ (n25 < (l38 : Int))) <|
      T.osome p37 <| fun (a40 : Addr) =>
      T.loads ((a40.add ((Int.toNat n25) * 3)).add 1) [.slice 104, .int .u32] <| fun (p41 : Option Addr) (l42 : Nat) (l43 : Nat) (n44 : Int) =>
      T.call Tryz.prog 36 [.agg #[.slice p41 l42 l43, .int .u32 n44]] false [(true, [.slice 104, .int .u32])] <| fun (p45 : Option Addr) (l46 : Nat) (l47 : Nat) (n48 : Int) =>
      T.stable [((a1.add 2), [.slice p37 l38 l39]), ((a35.add ((Int.toNat n25) * 3)), [.string s36]), ((a1.add 2), [.slice p32 l33 l34]), ((a24.add 2), [.slice p29 l30 l31])] <|
      T.sem Tryz.prog (Instr.buildSlice 25 1 #[(0, .agg #[.string s36, .slice p45 l46 l47, .int .u32 n48])]) false [(false, [.slice 0])] <| fun (p49 : Option Addr) (l50 : Nat) (l51 : Nat) =>
      T.stable [(((a40.add ((Int.toNat n25) * 3)).add 1), [.slice p41 l42 l43, .int .u32 n44]), ((a1.add 2), [.slice p37 l38 l39]), ((a35.add ((Int.toNat n25) * 3)), [.string s36]), ((a1.add 2), [.slice p32 l33 l34]), ((a24.add 2), [.slice p29 l30 l31])] <|
      T.sem Tryz.prog (Builtin.append_ #[25, 25] 25 #[.slice p29 l30 l31, .slice p49 l50 l51]) false [(false, [.slice 0])] <| fun (p52 : Option Addr) (l53 : Nat) (l54 : Nat) =>
      T.stable [(((a40.add ((Int.toNat n25) * 3)).add 1), [.slice p41 l42 l43, .int .u32 n44]), ((a1.add 2), [.slice p37 l38 l39]), ((a35.add ((Int.toNat n25) * 3)), [.string s36]), ((a1.add 2), [.slice p32 l33 l34])] <|
      T.stores (a24.add 2) [.slice p52 l53 l54] <|
      T.again 0 [.int .i64 (IntKind.wrap .i64 (n25 + (1 : Int)))])
      (T.loads a24 [.slice 102, .slice 102, .slice 78, .slice 9] <| fun (p29 : Option Addr) (l30 : Nat) (l31 : Nat) (p32 : Option Addr) (l33 : Nat) (l34 : Nat) (p35 : Option Addr) (l36 : Nat) (l37 : Nat) (p38 : Option Addr) (l39 : Nat) (l40 : Nat) =>
      T.stores a2 [.slice p29 l30 l31, .slice p32 l33 l34, .slice p35 l36 l37, .slice p38 l39 l40] <|
      T.loads a2 [.slice 102, .slice 102, .slice 78, .slice 9] <| fun (p41 : Option Addr) (l42 : Nat) (l43 : Nat) (p44 : Option Addr) (l45 : Nat) (l46 : Nat) (p47 : Option Addr) (l48 : Nat) (l49 : Nat) (p50 : Option Addr) (l51 : Nat) (l52 : Nat) =>
      T.ret (.agg #[.slice p41 l42 l43, .slice p44 l45 l46, .slice p47 l48 l49, .slice p50 l51 l52]))),
     (T.new [.slice none 0 0, .slice none 0 0, .slice none 0 0, .slice none 0 0] 28 <| fun (a21 : Addr) =>
     T.stable [((a1.add 3), [.slice p9 l10 l11]), ((a1.add 1), [.slice p6 l7 l8]), (a1, [.slice p3 l4 l5])] <|
     T.sem Tryz.prog (Builtin.append_ #[26, 26] 26 #[.slice p12 l13 l14, .slice p9 l10 l11]) false [(false, [.slice 0])] <| fun (p22 : Option Addr) (l23 : Nat) (l24 : Nat) =>
     T.stable [((a1.add 1), [.slice p6 l7 l8]), (a1, [.slice p3 l4 l5])] <|
     T.stores a21 [.slice p15 l16 l17, .slice p18 l19 l20, .slice none 0 0, .slice p22 l23 l24] <|
     T.loop [(false, [.int .i64])] [.int .i64 (0 : Int)] <| fun (n25 : Int) =>
     T.loads (a1.add 2) [.slice 78] <| fun (p26 : Option Addr) (l27 : Nat) (l28 : Nat) =>
     cond (decide (n25 < (l27 : Int)))
      (T.loads (a21.add 2) [.slice 78] <| fun (p29 : Option Addr) (l30 : Nat) (l31 : Nat) =>
      T.loads (a1.add 2) [.slice 78] <| fun (p32 : Option Addr) (l33 : Nat) (l34 : Nat) =>
      T.need (((0 : Int) ≤ n25) ∧ (n25 < (l33 : Int))) <|
      T.osome p32 <| fun (a35 : Addr) =>
      T.loads (a35.add ((Int.toNat n25) * 3)) [.string] <| fun (s36 : ByteArray) =>
      T.loads (a1.add 2) [.slice 78] <| fun (p37 : Option Addr) (l38 : Nat) (l39 : Nat) =>
      T.need (((0 : Int) ≤ n25) ∧ (n25 < (l38 : Int))) <|
      T.osome p37 <| fun (a40 : Addr) =>
      T.loads ((a40.add ((Int.toNat n25) * 3)).add 1) [.slice 104, .int .u32] <| fun (p41 : Option Addr) (l42 : Nat) (l43 : Nat) (n44 : Int) =>
      T.call Tryz.prog 36 [.agg #[.slice p41 l42 l43, .int .u32 n44]] false [(true, [.slice 104, .int .u32])] <| fun (p45 : Option Addr) (l46 : Nat) (l47 : Nat) (n48 : Int) =>
      T.stable [((a1.add 2), [.slice p37 l38 l39]), ((a35.add ((Int.toNat n25) * 3)), [.string s36]), ((a1.add 2), [.slice p32 l33 l34]), ((a21.add 2), [.slice p29 l30 l31])] <|
      T.sem Tryz.prog (Instr.buildSlice 25 1 #[(0, .agg #[.string s36, .slice p45 l46 l47, .int .u32 n48])]) false [(false, [.slice 0])] <| fun (p49 : Option Addr) (l50 : Nat) (l51 : Nat) =>
      T.stable [(((a40.add ((Int.toNat n25) * 3)).add 1), [.slice p41 l42 l43, .int .u32 n44]), ((a1.add 2), [.slice p37 l38 l39]), ((a35.add ((Int.toNat n25) * 3)), [.string s36]), ((a1.add 2), [.slice p32 l33 l34]), ((a21.add 2), [.slice p29 l30 l31])] <|
      T.sem Tryz.prog (Builtin.append_ #[25, 25] 25 #[.slice p29 l30 l31, .slice p49 l50 l51]) false [(false, [.slice 0])] <| fun (p52 : Option Addr) (l53 : Nat) (l54 : Nat) =>
      T.stable [(((a40.add ((Int.toNat n25) * 3)).add 1), [.slice p41 l42 l43, .int .u32 n44]), ((a1.add 2), [.slice p37 l38 l39]), ((a35.add ((Int.toNat n25) * 3)), [.string s36]), ((a1.add 2), [.slice p32 l33 l34])] <|
      T.stores (a21.add 2) [.slice p52 l53 l54] <|
      T.again 0 [.int .i64 (IntKind.wrap .i64 (n25 + (1 : Int)))])
      (T.loads a21 [.slice 102, .slice 102, .slice 78, .slice 9] <| fun (p29 : Option Addr) (l30 : Nat) (l31 : Nat) (p32 : Option Addr) (l33 : Nat) (l34 : Nat) (p35 : Option Addr) (l36 : Nat) (l37 : Nat) (p38 : Option Addr) (l39 : Nat) (l40 : Nat) =>
      T.stores a2 [.slice p29 l30 l31, .slice p32 l33 l34, .slice p35 l36 l37, .slice p38 l39 l40] <|
      T.loads a2 [.slice 102, .slice 102, .slice 78, .slice 9] <| fun (p41 : Option Addr) (l42 : Nat) (l43 : Nat) (p44 : Option Addr) (l45 : Nat) (l46 : Nat) (p47 : Option Addr) (l48 : Nat) (l49 : Nat) (p50 : Option Addr) (l51 : Nat) (l52 : Nat) =>
      T.ret (.agg #[.slice p41 l42 l43, .slice p44 l45 l46, .slice p47 l48 l49, .slice p50 l51 l52])))]),
    (T.new [.slice none 0 0, .slice none 0 0, .slice none 0 0, .slice none 0 0] 28 <| fun (a18 : Addr) =>
    T.stable [((a1.add 3), [.slice p9 l10 l11]), ((a1.add 1), [.slice p6 l7 l8]), (a1, [.slice p3 l4 l5])] <|
    T.call Tryz.prog 35 [.slice p6 l7 l8] false [(false, [.slice 102])] <| fun (p19 : Option Addr) (l20 : Nat) (l21 : Nat) =>
    T.stable [((a1.add 3), [.slice p9 l10 l11]), (a1, [.slice p3 l4 l5])] <|
    T.sem Tryz.prog (Builtin.append_ #[26, 26] 26 #[.slice p12 l13 l14, .slice p9 l10 l11]) false [(false, [.slice 0])] <| fun (p22 : Option Addr) (l23 : Nat) (l24 : Nat) =>
    T.stable [((a1.add 1), [.slice p6 l7 l8]), (a1, [.slice p3 l4 l5])] <|
    T.stores a18 [.slice p15 l16 l17, .slice p19 l20 l21, .slice none 0 0, .slice p22 l23 l24] <|
    T.loop [(false, [.int .i64])] [.int .i64 (0 : Int)] <| fun (n25 : Int) =>
    T.loads (a1.add 2) [.slice 78] <| fun (p26 : Option Addr) (l27 : Nat) (l28 : Nat) =>
    cond (decide (n25 < (l27 : Int)))
     (T.loads (a18.add 2) [.slice 78] <| fun (p29 : Option Addr) (l30 : Nat) (l31 : Nat) =>
     T.loads (a1.add 2) [.slice 78] <| fun (p32 : Option Addr) (l33 : Nat) (l34 : Nat) =>
     T.need (((0 : Int) ≤ n25) ∧ (n25 < (l33 : Int))) <|
     T.osome p32 <| fun (a35 : Addr) =>
     T.loads (a35.add ((Int.toNat n25) * 3)) [.string] <| fun (s36 : ByteArray) =>
     T.loads (a1.add 2) [.slice 78] <| fun (p37 : Option Addr) (l38 : Nat) (l39 : Nat) =>
     T.need (((0 : Int) ≤ n25) ∧ (n25 < (l38 : Int))) <|
     T.osome p37 <| fun (a40 : Addr) =>
     T.loads ((a40.add ((Int.toNat n25) * 3)).add 1) [.slice 104, .int .u32] <| fun (p41 : Option Addr) (l42 : Nat) (l43 : Nat) (n44 : Int) =>
     T.call Tryz.prog 36 [.agg #[.slice p41 l42 l43, .int .u32 n44]] false [(true, [.slice 104, .int .u32])] <| fun (p45 : Option Addr) (l46 : Nat) (l47 : Nat) (n48 : Int) =>
     T.stable [((a1.add 2), [.slice p37 l38 l39]), ((a35.add ((Int.toNat n25) * 3)), [.string s36]), ((a1.add 2), [.slice p32 l33 l34]), ((a18.add 2), [.slice p29 l30 l31])] <|
     T.sem Tryz.prog (Instr.buildSlice 25 1 #[(0, .agg #[.string s36, .slice p45 l46 l47, .int .u32 n48])]) false [(false, [.slice 0])] <| fun (p49 : Option Addr) (l50 : Nat) (l51 : Nat) =>
     T.stable [(((a40.add ((Int.toNat n25) * 3)).add 1), [.slice p41 l42 l43, .int .u32 n44]), ((a1.add 2), [.slice p37 l38 l39]), ((a35.add ((Int.toNat n25) * 3)), [.string s36]), ((a1.add 2), [.slice p32 l33 l34]), ((a18.add 2), [.slice p29 l30 l31])] <|
     T.sem Tryz.prog (Builtin.append_ #[25, 25] 25 #[.slice p29 l30 l31, .slice p49 l50 l51]) false [(false, [.slice 0])] <| fun (p52 : Option Addr) (l53 : Nat) (l54 : Nat) =>
     T.stable [(((a40.add ((Int.toNat n25) * 3)).add 1), [.slice p41 l42 l43, .int .u32 n44]), ((a1.add 2), [.slice p37 l38 l39]), ((a35.add ((Int.toNat n25) * 3)), [.string s36]), ((a1.add 2), [.slice p32 l33 l34])] <|
     T.stores (a18.add 2) [.slice p52 l53 l54] <|
     T.again 0 [.int .i64 (IntKind.wrap .i64 (n25 + (1 : Int)))])
     (T.loads a18 [.slice 102, .slice 102, .slice 78, .slice 9] <| fun (p29 : Option Addr) (l30 : Nat) (l31 : Nat) (p32 : Option Addr) (l33 : Nat) (l34 : Nat) (p35 : Option Addr) (l36 : Nat) (l37 : Nat) (p38 : Option Addr) (l39 : Nat) (l40 : Nat) =>
     T.stores a2 [.slice p29 l30 l31, .slice p32 l33 l34, .slice p35 l36 l37, .slice p38 l39 l40] <|
     T.loads a2 [.slice 102, .slice 102, .slice 78, .slice 9] <| fun (p41 : Option Addr) (l42 : Nat) (l43 : Nat) (p44 : Option Addr) (l45 : Nat) (l46 : Nat) (p47 : Option Addr) (l48 : Nat) (l49 : Nat) (p50 : Option Addr) (l51 : Nat) (l52 : Nat) =>
     T.ret (.agg #[.slice p41 l42 l43, .slice p44 l45 l46, .slice p47 l48 l49, .slice p50 l51 l52])))]),
   (T.new [.slice none 0 0, .slice none 0 0, .slice none 0 0, .slice none 0 0] 28 <| fun (a15 : Addr) =>
   T.stable [((a1.add 3), [.slice p9 l10 l11]), ((a1.add 1), [.slice p6 l7 l8]), (a1, [.slice p3 l4 l5])] <|
   T.call Tryz.prog 35 [.slice p3 l4 l5] false [(false, [.slice 102])] <| fun (p16 : Option Addr) (l17 : Nat) (l18 : Nat) =>
   T.stable [((a1.add 3), [.slice p9 l10 l11]), ((a1.add 1), [.slice p6 l7 l8])] <|
   T.call Tryz.prog 35 [.slice p6 l7 l8] false [(false, [.slice 102])] <| fun (p19 : Option Addr) (l20 : Nat) (l21 : Nat) =>
   T.stable [((a1.add 3), [.slice p9 l10 l11]), (a1, [.slice p3 l4 l5])] <|
   T.sem Tryz.prog (Builtin.append_ #[26, 26] 26 #[.slice p12 l13 l14, .slice p9 l10 l11]) false [(false, [.slice 0])] <| fun (p22 : Option Addr) (l23 : Nat) (l24 : Nat) =>
   T.stable [((a1.add 1), [.slice p6 l7 l8]), (a1, [.slice p3 l4 l5])] <|
   T.stores a15 [.slice p16 l17 l18, .slice p19 l20 l21, .slice none 0 0, .slice p22 l23 l24] <|
   T.loop [(false, [.int .i64])] [.int .i64 (0 : Int)] <| fun (n25 : Int) =>
   T.loads (a1.add 2) [.slice 78] <| fun (p26 : Option Addr) (l27 : Nat) (l28 : Nat) =>
   cond (decide (n25 < (l27 : Int)))
    (T.loads (a15.add 2) [.slice 78] <| fun (p29 : Option Addr) (l30 : Nat) (l31 : Nat) =>
    T.loads (a1.add 2) [.slice 78] <| fun (p32 : Option Addr) (l33 : Nat) (l34 : Nat) =>
    T.need (((0 : Int) ≤ n25) ∧ (n25 < (l33 : Int))) <|
    T.osome p32 <| fun (a35 : Addr) =>
    T.loads (a35.add ((Int.toNat n25) * 3)) [.string] <| fun (s36 : ByteArray) =>
    T.loads (a1.add 2) [.slice 78] <| fun (p37 : Option Addr) (l38 : Nat) (l39 : Nat) =>
    T.need (((0 : Int) ≤ n25) ∧ (n25 < (l38 : Int))) <|
    T.osome p37 <| fun (a40 : Addr) =>
    T.loads ((a40.add ((Int.toNat n25) * 3)).add 1) [.slice 104, .int .u32] <| fun (p41 : Option Addr) (l42 : Nat) (l43 : Nat) (n44 : Int) =>
    T.call Tryz.prog 36 [.agg #[.slice p41 l42 l43, .int .u32 n44]] false [(true, [.slice 104, .int .u32])] <| fun (p45 : Option Addr) (l46 : Nat) (l47 : Nat) (n48 : Int) =>
    T.stable [((a1.add 2), [.slice p37 l38 l39]), ((a35.add ((Int.toNat n25) * 3)), [.string s36]), ((a1.add 2), [.slice p32 l33 l34]), ((a15.add 2), [.slice p29 l30 l31])] <|
    T.sem Tryz.prog (Instr.buildSlice 25 1 #[(0, .agg #[.string s36, .slice p45 l46 l47, .int .u32 n48])]) false [(false, [.slice 0])] <| fun (p49 : Option Addr) (l50 : Nat) (l51 : Nat) =>
    T.stable [(((a40.add ((Int.toNat n25) * 3)).add 1), [.slice p41 l42 l43, .int .u32 n44]), ((a1.add 2), [.slice p37 l38 l39]), ((a35.add ((Int.toNat n25) * 3)), [.string s36]), ((a1.add 2), [.slice p32 l33 l34]), ((a15.add 2), [.slice p29 l30 l31])] <|
    T.sem Tryz.prog (Builtin.append_ #[25, 25] 25 #[.slice p29 l30 l31, .slice p49 l50 l51]) false [(false, [.slice 0])] <| fun (p52 : Option Addr) (l53 : Nat) (l54 : Nat) =>
    T.stable [(((a40.add ((Int.toNat n25) * 3)).add 1), [.slice p41 l42 l43, .int .u32 n44]), ((a1.add 2), [.slice p37 l38 l39]), ((a35.add ((Int.toNat n25) * 3)), [.string s36]), ((a1.add 2), [.slice p32 l33 l34])] <|
    T.stores (a15.add 2) [.slice p52 l53 l54] <|
    T.again 0 [.int .i64 (IntKind.wrap .i64 (n25 + (1 : Int)))])
    (T.loads a15 [.slice 102, .slice 102, .slice 78, .slice 9] <| fun (p29 : Option Addr) (l30 : Nat) (l31 : Nat) (p32 : Option Addr) (l33 : Nat) (l34 : Nat) (p35 : Option Addr) (l36 : Nat) (l37 : Nat) (p38 : Option Addr) (l39 : Nat) (l40 : Nat) =>
    T.stores a2 [.slice p29 l30 l31, .slice p32 l33 l34, .slice p35 l36 l37, .slice p38 l39 l40] <|
    T.loads a2 [.slice 102, .slice 102, .slice 78, .slice 9] <| fun (p41 : Option Addr) (l42 : Nat) (l43 : Nat) (p44 : Option Addr) (l45 : Nat) (l46 : Nat) (p47 : Option Addr) (l48 : Nat) (l49 : Nat) (p50 : Option Addr) (l51 : Nat) (l52 : Nat) =>
    T.ret (.agg #[.slice p41 l42 l43, .slice p44 l45 l46, .slice p47 l48 l49, .slice p50 l51 l52])))]),
  (T.new [.slice none 0 0, .slice none 0 0, .slice none 0 0, .slice none 0 0] 28 <| fun (a12 : Addr) =>
  T.stable [((a1.add 3), [.slice p9 l10 l11]), ((a1.add 1), [.slice p6 l7 l8]), (a1, [.slice p3 l4 l5])] <|
  T.all [ (T.call Tryz.prog 35 [.slice p3 l4 l5] false [(false, [.slice 102])] <| fun (p13 : Option Addr) (l14 : Nat) (l15 : Nat) =>
   T.stable [((a1.add 3), [.slice p9 l10 l11]), ((a1.add 1), [.slice p6 l7 l8])] <|
   T.all [ (T.call Tryz.prog 35 [.slice p6 l7 l8] false [(false, [.slice 102])] <| fun (p16 : Option Addr) (l17 : Nat) (l18 : Nat) =>
    T.stable [((a1.add 3), [.slice p9 l10 l11]), (a1, [.slice p3 l4 l5])] <|
    T.sem Tryz.prog (Instr.buildSlice 26 0 #[]) false [(false, [.slice 0])] <| fun (p19 : Option Addr) (l20 : Nat) (l21 : Nat) =>
    T.stable [((a1.add 3), [.slice p9 l10 l11]), ((a1.add 1), [.slice p6 l7 l8]), (a1, [.slice p3 l4 l5])] <|
    T.sem Tryz.prog (Builtin.append_ #[26, 26] 26 #[.slice p19 l20 l21, .slice p9 l10 l11]) false [(false, [.slice 0])] <| fun (p22 : Option Addr) (l23 : Nat) (l24 : Nat) =>
    T.stable [((a1.add 1), [.slice p6 l7 l8]), (a1, [.slice p3 l4 l5])] <|
    T.stores a12 [.slice p13 l14 l15, .slice p16 l17 l18, .slice none 0 0, .slice p22 l23 l24] <|
    T.loop [(false, [.int .i64])] [.int .i64 (0 : Int)] <| fun (n25 : Int) =>
    T.loads (a1.add 2) [.slice 78] <| fun (p26 : Option Addr) (l27 : Nat) (l28 : Nat) =>
    cond (decide (n25 < (l27 : Int)))
     (T.loads (a12.add 2) [.slice 78] <| fun (p29 : Option Addr) (l30 : Nat) (l31 : Nat) =>
     T.loads (a1.add 2) [.slice 78] <| fun (p32 : Option Addr) (l33 : Nat) (l34 : Nat) =>
     T.need (((0 : Int) ≤ n25) ∧ (n25 < (l33 : Int))) <|
     T.osome p32 <| fun (a35 : Addr) =>
     T.loads (a35.add ((Int.toNat n25) * 3)) [.string] <| fun (s36 : ByteArray) =>
     T.loads (a1.add 2) [.slice 78] <| fun (p37 : Option Addr) (l38 : Nat) (l39 : Nat) =>
     T.need (((0 : Int) ≤ n25) ∧ (n25 < (l38 : Int))) <|
     T.osome p37 <| fun (a40 : Addr) =>
     T.loads ((a40.add ((Int.toNat n25) * 3)).add 1) [.slice 104, .int .u32] <| fun (p41 : Option Addr) (l42 : Nat) (l43 : Nat) (n44 : Int) =>
     T.call Tryz.prog 36 [.agg #[.slice p41 l42 l43, .int .u32 n44]] false [(true, [.slice 104, .int .u32])] <| fun (p45 : Option Addr) (l46 : Nat) (l47 : Nat) (n48 : Int) =>
     T.stable [((a1.add 2), [.slice p37 l38 l39]), ((a35.add ((Int.toNat n25) * 3)), [.string s36]), ((a1.add 2), [.slice p32 l33 l34]), ((a12.add 2), [.slice p29 l30 l31])] <|
     T.sem Tryz.prog (Instr.buildSlice 25 1 #[(0, .agg #[.string s36, .slice p45 l46 l47, .int .u32 n48])]) false [(false, [.slice 0])] <| fun (p49 : Option Addr) (l50 : Nat) (l51 : Nat) =>
     T.stable [(((a40.add ((Int.toNat n25) * 3)).add 1), [.slice p41 l42 l43, .int .u32 n44]), ((a1.add 2), [.slice p37 l38 l39]), ((a35.add ((Int.toNat n25) * 3)), [.string s36]), ((a1.add 2), [.slice p32 l33 l34]), ((a12.add 2), [.slice p29 l30 l31])] <|
     T.sem Tryz.prog (Builtin.append_ #[25, 25] 25 #[.slice p29 l30 l31, .slice p49 l50 l51]) false [(false, [.slice 0])] <| fun (p52 : Option Addr) (l53 : Nat) (l54 : Nat) =>
     T.stable [(((a40.add ((Int.toNat n25) * 3)).add 1), [.slice p41 l42 l43, .int .u32 n44]), ((a1.add 2), [.slice p37 l38 l39]), ((a35.add ((Int.toNat n25) * 3)), [.string s36]), ((a1.add 2), [.slice p32 l33 l34])] <|
     T.stores (a12.add 2) [.slice p52 l53 l54] <|
     T.again 0 [.int .i64 (IntKind.wrap .i64 (n25 + (1 : Int)))])
     (T.loads a12 [.slice 102, .slice 102, .slice 78, .slice 9] <| fun (p29 : Option Addr) (l30 : Nat) (l31 : Nat) (p32 : Option Addr) (l33 : Nat) (l34 : Nat) (p35 : Option Addr) (l36 : Nat) (l37 : Nat) (p38 : Option Addr) (l39 : Nat) (l40 : Nat) =>
     T.stores a2 [.slice p29 l30 l31, .slice p32 l33 l34, .slice p35 l36 l37, .slice p38 l39 l40] <|
     T.loads a2 [.slice 102, .slice 102, .slice 78, .slice 9] <| fun (p41 : Option Addr) (l42 : Nat) (l43 : Nat) (p44 : Option Addr) (l45 : Nat) (l46 : Nat) (p47 : Option Addr) (l48 : Nat) (l49 : Nat) (p50 : Option Addr) (l51 : Nat) (l52 : Nat) =>
     T.ret (.agg #[.slice p41 l42 l43, .slice p44 l45 l46, .slice p47 l48 l49, .slice p50 l51 l52]))),
    (T.sem Tryz.prog (Instr.buildSlice 26 0 #[]) false [(false, [.slice 0])] <| fun (p16 : Option Addr) (l17 : Nat) (l18 : Nat) =>
    T.stable [((a1.add 3), [.slice p9 l10 l11]), ((a1.add 1), [.slice p6 l7 l8]), (a1, [.slice p3 l4 l5])] <|
    T.call Tryz.prog 35 [.slice p6 l7 l8] false [(false, [.slice 102])] <| fun (p19 : Option Addr) (l20 : Nat) (l21 : Nat) =>
    T.stable [((a1.add 3), [.slice p9 l10 l11]), (a1, [.slice p3 l4 l5])] <|
    T.sem Tryz.prog (Builtin.append_ #[26, 26] 26 #[.slice p16 l17 l18, .slice p9 l10 l11]) false [(false, [.slice 0])] <| fun (p22 : Option Addr) (l23 : Nat) (l24 : Nat) =>
    T.stable [((a1.add 1), [.slice p6 l7 l8]), (a1, [.slice p3 l4 l5])] <|
    T.stores a12 [.slice p13 l14 l15, .slice p19 l20 l21, .slice none 0 0, .slice p22 l23 l24] <|
    T.loop [(false, [.int .i64])] [.int .i64 (0 : Int)] <| fun (n25 : Int) =>
    T.loads (a1.add 2) [.slice 78] <| fun (p26 : Option Addr) (l27 : Nat) (l28 : Nat) =>
    cond (decide (n25 < (l27 : Int)))
     (T.loads (a12.add 2) [.slice 78] <| fun (p29 : Option Addr) (l30 : Nat) (l31 : Nat) =>
     T.loads (a1.add 2) [.slice 78] <| fun (p32 : Option Addr) (l33 : Nat) (l34 : Nat) =>
     T.need (((0 : Int) ≤ n25) ∧ (n25 < (l33 : Int))) <|
     T.osome p32 <| fun (a35 : Addr) =>
     T.loads (a35.add ((Int.toNat n25) * 3)) [.string] <| fun (s36 : ByteArray) =>
     T.loads (a1.add 2) [.slice 78] <| fun (p37 : Option Addr) (l38 : Nat) (l39 : Nat) =>
     T.need (((0 : Int) ≤ n25) ∧ (n25 < (l38 : Int))) <|
     T.osome p37 <| fun (a40 : Addr) =>
     T.loads ((a40.add ((Int.toNat n25) * 3)).add 1) [.slice 104, .int .u32] <| fun (p41 : Option Addr) (l42 : Nat) (l43 : Nat) (n44 : Int) =>
     T.call Tryz.prog 36 [.agg #[.slice p41 l42 l43, .int .u32 n44]] false [(true, [.slice 104, .int .u32])] <| fun (p45 : Option Addr) (l46 : Nat) (l47 : Nat) (n48 : Int) =>
     T.stable [((a1.add 2), [.slice p37 l38 l39]), ((a35.add ((Int.toNat n25) * 3)), [.string s36]), ((a1.add 2), [.slice p32 l33 l34]), ((a12.add 2), [.slice p29 l30 l31])] <|
     T.sem Tryz.prog (Instr.buildSlice 25 1 #[(0, .agg #[.string s36, .slice p45 l46 l47, .int .u32 n48])]) false [(false, [.slice 0])] <| fun (p49 : Option Addr) (l50 : Nat) (l51 : Nat) =>
     T.stable [(((a40.add ((Int.toNat n25) * 3)).add 1), [.slice p41 l42 l43, .int .u32 n44]), ((a1.add 2), [.slice p37 l38 l39]), ((a35.add ((Int.toNat n25) * 3)), [.string s36]), ((a1.add 2), [.slice p32 l33 l34]), ((a12.add 2), [.slice p29 l30 l31])] <|
     T.sem Tryz.prog (Builtin.append_ #[25, 25] 25 #[.slice p29 l30 l31, .slice p49 l50 l51]) false [(false, [.slice 0])] <| fun (p52 : Option Addr) (l53 : Nat) (l54 : Nat) =>
     T.stable [(((a40.add ((Int.toNat n25) * 3)).add 1), [.slice p41 l42 l43, .int .u32 n44]), ((a1.add 2), [.slice p37 l38 l39]), ((a35.add ((Int.toNat n25) * 3)), [.string s36]), ((a1.add 2), [.slice p32 l33 l34])] <|
     T.stores (a12.add 2) [.slice p52 l53 l54] <|
     T.again 0 [.int .i64 (IntKind.wrap .i64 (n25 + (1 : Int)))])
     (T.loads a12 [.slice 102, .slice 102, .slice 78, .slice 9] <| fun (p29 : Option Addr) (l30 : Nat) (l31 : Nat) (p32 : Option Addr) (l33 : Nat) (l34 : Nat) (p35 : Option Addr) (l36 : Nat) (l37 : Nat) (p38 : Option Addr) (l39 : Nat) (l40 : Nat) =>
     T.stores a2 [.slice p29 l30 l31, .slice p32 l33 l34, .slice p35 l36 l37, .slice p38 l39 l40] <|
     T.loads a2 [.slice 102, .slice 102, .slice 78, .slice 9] <| fun (p41 : Option Addr) (l42 : Nat) (l43 : Nat) (p44 : Option Addr) (l45 : Nat) (l46 : Nat) (p47 : Option Addr) (l48 : Nat) (l49 : Nat) (p50 : Option Addr) (l51 : Nat) (l52 : Nat) =>
     T.ret (.agg #[.slice p41 l42 l43, .slice p44 l45 l46, .slice p47 l48 l49, .slice p50 l51 l52])))]),
   (T.sem Tryz.prog (Instr.buildSlice 26 0 #[]) false [(false, [.slice 0])] <| fun (p13 : Option Addr) (l14 : Nat) (l15 : Nat) =>
   T.stable [((a1.add 3), [.slice p9 l10 l11]), ((a1.add 1), [.slice p6 l7 l8]), (a1, [.slice p3 l4 l5])] <|
   T.call Tryz.prog 35 [.slice p3 l4 l5] false [(false, [.slice 102])] <| fun (p16 : Option Addr) (l17 : Nat) (l18 : Nat) =>
   T.stable [((a1.add 3), [.slice p9 l10 l11]), ((a1.add 1), [.slice p6 l7 l8])] <|
   T.call Tryz.prog 35 [.slice p6 l7 l8] false [(false, [.slice 102])] <| fun (p19 : Option Addr) (l20 : Nat) (l21 : Nat) =>
   T.stable [((a1.add 3), [.slice p9 l10 l11]), (a1, [.slice p3 l4 l5])] <|
   T.sem Tryz.prog (Builtin.append_ #[26, 26] 26 #[.slice p13 l14 l15, .slice p9 l10 l11]) false [(false, [.slice 0])] <| fun (p22 : Option Addr) (l23 : Nat) (l24 : Nat) =>
   T.stable [((a1.add 1), [.slice p6 l7 l8]), (a1, [.slice p3 l4 l5])] <|
   T.stores a12 [.slice p16 l17 l18, .slice p19 l20 l21, .slice none 0 0, .slice p22 l23 l24] <|
   T.loop [(false, [.int .i64])] [.int .i64 (0 : Int)] <| fun (n25 : Int) =>
   T.loads (a1.add 2) [.slice 78] <| fun (p26 : Option Addr) (l27 : Nat) (l28 : Nat) =>
   cond (decide (n25 < (l27 : Int)))
    (T.loads (a12.add 2) [.slice 78] <| fun (p29 : Option Addr) (l30 : Nat) (l31 : Nat) =>
    T.loads (a1.add 2) [.slice 78] <| fun (p32 : Option Addr) (l33 : Nat) (l34 : Nat) =>
    T.need (((0 : Int) ≤ n25) ∧ (n25 < (l33 : Int))) <|
    T.osome p32 <| fun (a35 : Addr) =>
    T.loads (a35.add ((Int.toNat n25) * 3)) [.string] <| fun (s36 : ByteArray) =>
    T.loads (a1.add 2) [.slice 78] <| fun (p37 : Option Addr) (l38 : Nat) (l39 : Nat) =>
    T.need (((0 : Int) ≤ n25) ∧ (n25 < (l38 : Int))) <|
    T.osome p37 <| fun (a40 : Addr) =>
    T.loads ((a40.add ((Int.toNat n25) * 3)).add 1) [.slice 104, .int .u32] <| fun (p41 : Option Addr) (l42 : Nat) (l43 : Nat) (n44 : Int) =>
    T.call Tryz.prog 36 [.agg #[.slice p41 l42 l43, .int .u32 n44]] false [(true, [.slice 104, .int .u32])] <| fun (p45 : Option Addr) (l46 : Nat) (l47 : Nat) (n48 : Int) =>
    T.stable [((a1.add 2), [.slice p37 l38 l39]), ((a35.add ((Int.toNat n25) * 3)), [.string s36]), ((a1.add 2), [.slice p32 l33 l34]), ((a12.add 2), [.slice p29 l30 l31])] <|
    T.sem Tryz.prog (Instr.buildSlice 25 1 #[(0, .agg #[.string s36, .slice p45 l46 l47, .int .u32 n48])]) false [(false, [.slice 0])] <| fun (p49 : Option Addr) (l50 : Nat) (l51 : Nat) =>
    T.stable [(((a40.add ((Int.toNat n25) * 3)).add 1), [.slice p41 l42 l43, .int .u32 n44]), ((a1.add 2), [.slice p37 l38 l39]), ((a35.add ((Int.toNat n25) * 3)), [.string s36]), ((a1.add 2), [.slice p32 l33 l34]), ((a12.add 2), [.slice p29 l30 l31])] <|
    T.sem Tryz.prog (Builtin.append_ #[25, 25] 25 #[.slice p29 l30 l31, .slice p49 l50 l51]) false [(false, [.slice 0])] <| fun (p52 : Option Addr) (l53 : Nat) (l54 : Nat) =>
    T.stable [(((a40.add ((Int.toNat n25) * 3)).add 1), [.slice p41 l42 l43, .int .u32 n44]), ((a1.add 2), [.slice p37 l38 l39]), ((a35.add ((Int.toNat n25) * 3)), [.string s36]), ((a1.add 2), [.slice p32 l33 l34])] <|
    T.stores (a12.add 2) [.slice p52 l53 l54] <|
    T.again 0 [.int .i64 (IntKind.wrap .i64 (n25 + (1 : Int)))])
    (T.loads a12 [.slice 102, .slice 102, .slice 78, .slice 9] <| fun (p29 : Option Addr) (l30 : Nat) (l31 : Nat) (p32 : Option Addr) (l33 : Nat) (l34 : Nat) (p35 : Option Addr) (l36 : Nat) (l37 : Nat) (p38 : Option Addr) (l39 : Nat) (l40 : Nat) =>
    T.stores a2 [.slice p29 l30 l31, .slice p32 l33 l34, .slice p35 l36 l37, .slice p38 l39 l40] <|
    T.loads a2 [.slice 102, .slice 102, .slice 78, .slice 9] <| fun (p41 : Option Addr) (l42 : Nat) (l43 : Nat) (p44 : Option Addr) (l45 : Nat) (l46 : Nat) (p47 : Option Addr) (l48 : Nat) (l49 : Nat) (p50 : Option Addr) (l51 : Nat) (l52 : Nat) =>
    T.ret (.agg #[.slice p41 l42 l43, .slice p44 l45 l46, .slice p47 l48 l49, .slice p50 l51 l52])))])]
theorem t_spandrelkeep_CopyUnit_eq (pp00 : Option Addr) (ll00 cc00 : Nat) (pp01 : Option Addr) (ll01 cc01 : Nat) (pp02 : Option Addr) (ll02 cc02 : Nat) (pp03 : Option Addr) (ll03 cc03 : Nat) : xfun Tryz.prog [] Tryz.f13 [.agg #[.slice pp00 ll00 cc00, .slice pp01 ll01 cc01, .slice pp02 ll02 cc02, .slice pp03 ll03 cc03]] = t_spandrelkeep_CopyUnit pp00 ll00 cc00 pp01 ll01 cc01 pp02 ll02 cc02 pp03 ll03 cc03 := by kernel_rfl

/-- The tree of 35. -/
def t_spandrelkeep_CopyItems (pp00 : Option Addr) (ll00 cc00 : Nat) : T :=
 T.sem Tryz.prog (Instr.makeSlice 24 (.int .i64 (ll00 : Int)) (.int .i64 (ll00 : Int))) false [(false, [.slice 0])] <| fun (p1 : Option Addr) (l2 : Nat) (l3 : Nat) =>
 T.loop [(false, [.int .i64])] [.int .i64 (0 : Int)] <| fun (n4 : Int) =>
 cond (decide (n4 < (ll00 : Int)))
  (T.need (((0 : Int) ≤ n4) ∧ (n4 < (ll00 : Int))) <|
  T.osome pp00 <| fun (a5 : Addr) =>
  T.loads (a5.add ((Int.toNat n4) * 10)) [.int .i64, .string, .int .i64, .int .i64, .int .i64, .int .i32, .int .i64, .slice 104, .int .u32, .int .i64] <| fun (n6 : Int) (s7 : ByteArray) (n8 : Int) (n9 : Int) (n10 : Int) (n11 : Int) (n12 : Int) (p13 : Option Addr) (l14 : Nat) (l15 : Nat) (n16 : Int) (n17 : Int) =>
  T.need (((0 : Int) ≤ n4) ∧ (n4 < (l2 : Int))) <|
  T.osome p1 <| fun (a18 : Addr) =>
  T.stores (a18.add ((Int.toNat n4) * 10)) [.int .i64 n6, .string s7, .int .i64 n8, .int .i64 n9, .int .i64 n10, .int .i32 n11, .int .i64 n12, .slice p13 l14 l15, .int .u32 n16, .int .i64 n17] <|
  T.need (((0 : Int) ≤ n4) ∧ (n4 < (ll00 : Int))) <|
  T.osome pp00 <| fun (a19 : Addr) =>
  T.loads ((a19.add ((Int.toNat n4) * 10)).add 7) [.slice 104, .int .u32] <| fun (p20 : Option Addr) (l21 : Nat) (l22 : Nat) (n23 : Int) =>
  T.call Tryz.prog 36 [.agg #[.slice p20 l21 l22, .int .u32 n23]] false [(true, [.slice 104, .int .u32])] <| fun (p24 : Option Addr) (l25 : Nat) (l26 : Nat) (n27 : Int) =>
  T.need (((0 : Int) ≤ n4) ∧ (n4 < (l2 : Int))) <|
  T.osome p1 <| fun (a28 : Addr) =>
  T.stores ((a28.add ((Int.toNat n4) * 10)).add 7) [.slice p24 l25 l26, .int .u32 n27] <|
  T.again 0 [.int .i64 (IntKind.wrap .i64 (n4 + (1 : Int)))])
  (T.ret (.slice p1 l2 l3))
theorem t_spandrelkeep_CopyItems_eq (pp00 : Option Addr) (ll00 cc00 : Nat) : xfun Tryz.prog [] Tryz.f35 [.slice pp00 ll00 cc00] = t_spandrelkeep_CopyItems pp00 ll00 cc00 := by kernel_rfl

/-- The tree of 36. -/
def t_spandrelkeep_CopyLin (pp00 : Option Addr) (ll00 cc00 : Nat) (n1_0 : Int) : T :=
 T.new [.slice pp00 ll00 cc00, .int .u32 n1_0] 75 <| fun (a1 : Addr) =>
 T.new [.slice none 0 0, .int .u32 (0 : Int)] 75 <| fun (a2 : Addr) =>
 T.loads a1 [.slice 104] <| fun (p3 : Option Addr) (l4 : Nat) (l5 : Nat) =>
 T.loads (a1.add 1) [.int .u32] <| fun (n6 : Int) =>
 T.sem Tryz.prog (Instr.buildSlice 73 0 #[]) false [(false, [.slice 0])] <| fun (p7 : Option Addr) (l8 : Nat) (l9 : Nat) =>
 T.stable [((a1.add 1), [.int .u32 n6]), (a1, [.slice p3 l4 l5])] <|
 T.sem Tryz.prog (Builtin.append_ #[73, 73] 73 #[.slice p7 l8 l9, .slice p3 l4 l5]) false [(false, [.slice 0])] <| fun (p10 : Option Addr) (l11 : Nat) (l12 : Nat) =>
 T.stable [((a1.add 1), [.int .u32 n6])] <|
 T.stores a2 [.slice p10 l11 l12, .int .u32 n6] <|
 T.loads a2 [.slice 104, .int .u32] <| fun (p13 : Option Addr) (l14 : Nat) (l15 : Nat) (n16 : Int) =>
 T.ret (.agg #[.slice p13 l14 l15, .int .u32 n16])
theorem t_spandrelkeep_CopyLin_eq (pp00 : Option Addr) (ll00 cc00 : Nat) (n1_0 : Int) : xfun Tryz.prog [] Tryz.f36 [.agg #[.slice pp00 ll00 cc00, .int .u32 n1_0]] = t_spandrelkeep_CopyLin pp00 ll00 cc00 n1_0 := by kernel_rfl

/-- The tree of 16. -/
def t_spandrelkeep_Spoil (pp00 : Option Addr) (ll00 cc00 : Nat) (pp01 : Option Addr) (ll01 cc01 : Nat) (pp02 : Option Addr) (ll02 cc02 : Nat) (pp03 : Option Addr) (ll03 cc03 : Nat) : T :=
 T.new [.slice pp00 ll00 cc00, .slice pp01 ll01 cc01, .slice pp02 ll02 cc02, .slice pp03 ll03 cc03] 28 <| fun (a1 : Addr) =>
 T.loads a1 [.slice 102] <| fun (p2 : Option Addr) (l3 : Nat) (l4 : Nat) =>
 T.loads (a1.add 1) [.slice 102] <| fun (p5 : Option Addr) (l6 : Nat) (l7 : Nat) =>
 T.sem Tryz.prog (Instr.buildSlice 98 2 #[(0, .slice p2 l3 l4), (1, .slice p5 l6 l7)]) false [(false, [.slice 0])] <| fun (p8 : Option Addr) (l9 : Nat) (l10 : Nat) =>
 T.loop [(false, [.int .i64])] [.int .i64 (0 : Int)] <| fun (n11 : Int) =>
 cond (decide (n11 < (l9 : Int)))
  (T.need (((0 : Int) ≤ n11) ∧ (n11 < (l9 : Int))) <|
  T.osome p8 <| fun (a12 : Addr) =>
  T.loads (a12.add ((Int.toNat n11) * 1)) [.slice 102] <| fun (p13 : Option Addr) (l14 : Nat) (l15 : Nat) =>
  T.loop [(false, [.int .i64])] [.int .i64 (0 : Int)] <| fun (n16 : Int) =>
  cond (decide (n16 < (l14 : Int)))
   (T.loop [(false, [.int .i64])] [.int .i64 (0 : Int)] <| fun (n17 : Int) =>
   T.need (((0 : Int) ≤ n16) ∧ (n16 < (l14 : Int))) <|
   T.osome p13 <| fun (a18 : Addr) =>
   T.loads ((a18.add ((Int.toNat n16) * 10)).add 7) [.slice 104] <| fun (p19 : Option Addr) (l20 : Nat) (l21 : Nat) =>
   cond (decide (n17 < (l20 : Int)))
    (T.need (((0 : Int) ≤ n16) ∧ (n16 < (l14 : Int))) <|
    T.osome p13 <| fun (a22 : Addr) =>
    T.loads ((a22.add ((Int.toNat n16) * 10)).add 7) [.slice 104] <| fun (p23 : Option Addr) (l24 : Nat) (l25 : Nat) =>
    T.need (((0 : Int) ≤ n17) ∧ (n17 < (l24 : Int))) <|
    T.osome p23 <| fun (a26 : Addr) =>
    T.stores (a26.add ((Int.toNat n17) * 2)) [.string ⟨#[115, 112, 111, 105, 108, 116]⟩, .int .u32 (0 : Int)] <|
    T.again 2 [.int .i64 (IntKind.wrap .i64 (n17 + (1 : Int)))])
    (T.need (((0 : Int) ≤ n16) ∧ (n16 < (l14 : Int))) <|
    T.osome p13 <| fun (a22 : Addr) =>
    T.stores (a22.add ((Int.toNat n16) * 10)) [.int .i64 (-9 : Int), .string ⟨#[]⟩, .int .i64 (0 : Int), .int .i64 (0 : Int), .int .i64 (0 : Int), .int .i32 (0 : Int), .int .i64 (0 : Int), .slice none 0 0, .int .u32 (0 : Int), .int .i64 (0 : Int)] <|
    T.again 1 [.int .i64 (IntKind.wrap .i64 (n16 + (1 : Int)))]))
   (T.again 0 [.int .i64 (IntKind.wrap .i64 (n11 + (1 : Int)))]))
  (T.loop [(false, [.int .i64])] [.int .i64 (0 : Int)] <| fun (n12 : Int) =>
  T.loads (a1.add 2) [.slice 78] <| fun (p13 : Option Addr) (l14 : Nat) (l15 : Nat) =>
  cond (decide (n12 < (l14 : Int)))
   (T.loop [(false, [.int .i64])] [.int .i64 (0 : Int)] <| fun (n16 : Int) =>
   T.loads (a1.add 2) [.slice 78] <| fun (p17 : Option Addr) (l18 : Nat) (l19 : Nat) =>
   T.need (((0 : Int) ≤ n12) ∧ (n12 < (l18 : Int))) <|
   T.osome p17 <| fun (a20 : Addr) =>
   T.loads ((a20.add ((Int.toNat n12) * 3)).add 1) [.slice 104] <| fun (p21 : Option Addr) (l22 : Nat) (l23 : Nat) =>
   cond (decide (n16 < (l22 : Int)))
    (T.loads (a1.add 2) [.slice 78] <| fun (p24 : Option Addr) (l25 : Nat) (l26 : Nat) =>
    T.need (((0 : Int) ≤ n12) ∧ (n12 < (l25 : Int))) <|
    T.osome p24 <| fun (a27 : Addr) =>
    T.loads ((a27.add ((Int.toNat n12) * 3)).add 1) [.slice 104] <| fun (p28 : Option Addr) (l29 : Nat) (l30 : Nat) =>
    T.need (((0 : Int) ≤ n16) ∧ (n16 < (l29 : Int))) <|
    T.osome p28 <| fun (a31 : Addr) =>
    T.stores (a31.add ((Int.toNat n16) * 2)) [.string ⟨#[115, 112, 111, 105, 108, 116]⟩, .int .u32 (0 : Int)] <|
    T.again 2 [.int .i64 (IntKind.wrap .i64 (n16 + (1 : Int)))])
    (T.loads (a1.add 2) [.slice 78] <| fun (p24 : Option Addr) (l25 : Nat) (l26 : Nat) =>
    T.need (((0 : Int) ≤ n12) ∧ (n12 < (l25 : Int))) <|
    T.osome p24 <| fun (a27 : Addr) =>
    T.stores (a27.add ((Int.toNat n12) * 3)) [.string ⟨#[115, 112, 111, 105, 108, 116]⟩, .slice none 0 0, .int .u32 (0 : Int)] <|
    T.again 1 [.int .i64 (IntKind.wrap .i64 (n12 + (1 : Int)))]))
   (T.loop [(false, [.int .i64])] [.int .i64 (0 : Int)] <| fun (n16 : Int) =>
   T.loads (a1.add 3) [.slice 9] <| fun (p17 : Option Addr) (l18 : Nat) (l19 : Nat) =>
   cond (decide (n16 < (l18 : Int)))
    (T.loads (a1.add 3) [.slice 9] <| fun (p20 : Option Addr) (l21 : Nat) (l22 : Nat) =>
    T.need (((0 : Int) ≤ n16) ∧ (n16 < (l21 : Int))) <|
    T.osome p20 <| fun (a23 : Addr) =>
    T.stores (a23.add ((Int.toNat n16) * 1)) [.string ⟨#[115, 112, 111, 105, 108, 116]⟩] <|
    T.again 2 [.int .i64 (IntKind.wrap .i64 (n16 + (1 : Int)))])
    (T.ret (.tuple #[]))))
theorem t_spandrelkeep_Spoil_eq (pp00 : Option Addr) (ll00 cc00 : Nat) (pp01 : Option Addr) (ll01 cc01 : Nat) (pp02 : Option Addr) (ll02 cc02 : Nat) (pp03 : Option Addr) (ll03 cc03 : Nat) : xfun Tryz.prog [] Tryz.f16 [.agg #[.slice pp00 ll00 cc00, .slice pp01 ll01 cc01, .slice pp02 ll02 cc02, .slice pp03 ll03 cc03]] = t_spandrelkeep_Spoil pp00 ll00 cc00 pp01 ll01 cc01 pp02 ll02 cc02 pp03 ll03 cc03 := by kernel_rfl

/-- The tree of 4. -/
def t_spandrellaw10_ObjectKept (pp00 : Option Addr) (ll00 cc00 : Nat) (pp01 : Option Addr) (ll01 cc01 : Nat) (pp02 : Option Addr) (ll02 cc02 : Nat) (pp03 : Option Addr) (ll03 cc03 : Nat) : T :=
 T.new [.slice pp00 ll00 cc00, .slice pp01 ll01 cc01, .slice pp02 ll02 cc02, .slice pp03 ll03 cc03] 28 <| fun (a1 : Addr) =>
 T.loads a1 [.slice 102, .slice 102, .slice 78, .slice 9] <| fun (p2 : Option Addr) (l3 : Nat) (l4 : Nat) (p5 : Option Addr) (l6 : Nat) (l7 : Nat) (p8 : Option Addr) (l9 : Nat) (l10 : Nat) (p11 : Option Addr) (l12 : Nat) (l13 : Nat) =>
 T.sem Tryz.prog (Instr.buildSlice 43 1 #[(0, .agg #[.slice p2 l3 l4, .slice p5 l6 l7, .slice p8 l9 l10, .slice p11 l12 l13])]) false [(false, [.slice 0])] <| fun (p14 : Option Addr) (l15 : Nat) (l16 : Nat) =>
 T.call Tryz.prog 12 [.slice p14 l15 l16] false [(false, [.bool])] <| fun (b17 : Bool) =>
 cond b17
  (T.call Tryz.prog 11 [] false [(false, [.bool])] <| fun (b18 : Bool) =>
  T.ret (.bool b18))
  (T.loads a1 [.slice 102, .slice 102, .slice 78, .slice 9] <| fun (p18 : Option Addr) (l19 : Nat) (l20 : Nat) (p21 : Option Addr) (l22 : Nat) (l23 : Nat) (p24 : Option Addr) (l25 : Nat) (l26 : Nat) (p27 : Option Addr) (l28 : Nat) (l29 : Nat) =>
  T.call Tryz.prog 13 [.agg #[.slice p18 l19 l20, .slice p21 l22 l23, .slice p24 l25 l26, .slice p27 l28 l29]] false [(true, [.slice 102, .slice 102, .slice 78, .slice 9])] <| fun (p30 : Option Addr) (l31 : Nat) (l32 : Nat) (p33 : Option Addr) (l34 : Nat) (l35 : Nat) (p36 : Option Addr) (l37 : Nat) (l38 : Nat) (p39 : Option Addr) (l40 : Nat) (l41 : Nat) =>
  T.new [.slice none 0 0, .slice none 0 0, .slice none 0 0, .slice none 0 0] 28 <| fun (a42 : Addr) =>
  T.stores a42 [.slice p30 l31 l32, .slice p33 l34 l35, .slice p36 l37 l38, .slice p39 l40 l41] <|
  T.new [.slice none 0 0, .slice none 0 0, .int .i64 (0 : Int), .bool false] 47 <| fun (a43 : Addr) =>
  T.loads a1 [.slice 102, .slice 102, .slice 78, .slice 9] <| fun (p44 : Option Addr) (l45 : Nat) (l46 : Nat) (p47 : Option Addr) (l48 : Nat) (l49 : Nat) (p50 : Option Addr) (l51 : Nat) (l52 : Nat) (p53 : Option Addr) (l54 : Nat) (l55 : Nat) =>
  T.call Tryz.prog 14 [.agg #[.slice p44 l45 l46, .slice p47 l48 l49, .slice p50 l51 l52, .slice p53 l54 l55]] true [(false, [.slice 5]), (false, [.int .i64])] <| fun (p56 : Option Addr) (l57 : Nat) (l58 : Nat) (n59 : Int) =>
  T.loads a1 [.slice 102, .slice 102, .slice 78, .slice 9] <| fun (p60 : Option Addr) (l61 : Nat) (l62 : Nat) (p63 : Option Addr) (l64 : Nat) (l65 : Nat) (p66 : Option Addr) (l67 : Nat) (l68 : Nat) (p69 : Option Addr) (l70 : Nat) (l71 : Nat) =>
  T.call Tryz.prog 14 [.agg #[.slice p60 l61 l62, .slice p63 l64 l65, .slice p66 l67 l68, .slice p69 l70 l71]] true [(false, [.slice 5]), (false, [.int .i64])] <| fun (p72 : Option Addr) (l73 : Nat) (l74 : Nat) (n75 : Int) =>
  T.call Tryz.prog 15 [.pointer (some a43), .slice p56 l57 l58] true [] <| T.call Tryz.prog 15 [.pointer (some a43), .slice p72 l73 l74] true [] <| cond (n59 != (0 : Int))
   (T.loads a1 [.slice 102, .slice 102, .slice 78, .slice 9] <| fun (p76 : Option Addr) (l77 : Nat) (l78 : Nat) (p79 : Option Addr) (l80 : Nat) (l81 : Nat) (p82 : Option Addr) (l83 : Nat) (l84 : Nat) (p85 : Option Addr) (l86 : Nat) (l87 : Nat) =>
   T.loads a42 [.slice 102, .slice 102, .slice 78, .slice 9] <| fun (p88 : Option Addr) (l89 : Nat) (l90 : Nat) (p91 : Option Addr) (l92 : Nat) (l93 : Nat) (p94 : Option Addr) (l95 : Nat) (l96 : Nat) (p97 : Option Addr) (l98 : Nat) (l99 : Nat) =>
   T.call Tryz.prog 9 [.agg #[.slice p76 l77 l78, .slice p79 l80 l81, .slice p82 l83 l84, .slice p85 l86 l87], .agg #[.slice p88 l89 l90, .slice p91 l92 l93, .slice p94 l95 l96, .slice p97 l98 l99]] false [(false, [.bool])] <| fun (b100 : Bool) =>
   cond b100
    (cond ((l57 : Int) == (0 : Int))
     (T.call Tryz.prog 11 [] false [(false, [.bool])] <| fun (b101 : Bool) =>
     T.ret (.bool b101))
     (T.ret (.bool false)))
    (T.ret (.bool false)))
   (T.call Tryz.prog 6 [.slice p56 l57 l58] true [(true, [.slice 102, .slice 102, .slice 78, .slice 9]), (false, [.interface #[("Error", 72)]])] <| fun (p76 : Option Addr) (l77 : Nat) (l78 : Nat) (p79 : Option Addr) (l80 : Nat) (l81 : Nat) (p82 : Option Addr) (l83 : Nat) (l84 : Nat) (p85 : Option Addr) (l86 : Nat) (l87 : Nat) (v88 : Value) =>
   T.new [.slice none 0 0, .slice none 0 0, .slice none 0 0, .slice none 0 0] 28 <| fun (a89 : Addr) =>
   T.stores a89 [.slice p76 l77 l78, .slice p79 l80 l81, .slice p82 l83 l84, .slice p85 l86 l87] <|
   T.call Tryz.prog 6 [.slice p56 l57 l58] true [(true, [.slice 102, .slice 102, .slice 78, .slice 9]), (false, [.interface #[("Error", 72)]])] <| fun (p90 : Option Addr) (l91 : Nat) (l92 : Nat) (p93 : Option Addr) (l94 : Nat) (l95 : Nat) (p96 : Option Addr) (l97 : Nat) (l98 : Nat) (p99 : Option Addr) (l100 : Nat) (l101 : Nat) (v102 : Value) =>
   T.new [.slice none 0 0, .slice none 0 0, .slice none 0 0, .slice none 0 0] 28 <| fun (a103 : Addr) =>
   T.stores a103 [.slice p90 l91 l92, .slice p93 l94 l95, .slice p96 l97 l98, .slice p99 l100 l101] <|
   T.loads a89 [.slice 102, .slice 102, .slice 78, .slice 9] <| fun (p104 : Option Addr) (l105 : Nat) (l106 : Nat) (p107 : Option Addr) (l108 : Nat) (l109 : Nat) (p110 : Option Addr) (l111 : Nat) (l112 : Nat) (p113 : Option Addr) (l114 : Nat) (l115 : Nat) =>
   T.call Tryz.prog 16 [.agg #[.slice p104 l105 l106, .slice p107 l108 l109, .slice p110 l111 l112, .slice p113 l114 l115]] true [] <| T.loads a103 [.slice 102, .slice 102, .slice 78, .slice 9] <| fun (p116 : Option Addr) (l117 : Nat) (l118 : Nat) (p119 : Option Addr) (l120 : Nat) (l121 : Nat) (p122 : Option Addr) (l123 : Nat) (l124 : Nat) (p125 : Option Addr) (l126 : Nat) (l127 : Nat) =>
   T.loads a42 [.slice 102, .slice 102, .slice 78, .slice 9] <| fun (p128 : Option Addr) (l129 : Nat) (l130 : Nat) (p131 : Option Addr) (l132 : Nat) (l133 : Nat) (p134 : Option Addr) (l135 : Nat) (l136 : Nat) (p137 : Option Addr) (l138 : Nat) (l139 : Nat) =>
   T.call Tryz.prog 9 [.agg #[.slice p116 l117 l118, .slice p119 l120 l121, .slice p122 l123 l124, .slice p125 l126 l127], .agg #[.slice p128 l129 l130, .slice p131 l132 l133, .slice p134 l135 l136, .slice p137 l138 l139]] false [(false, [.bool])] <| fun (b140 : Bool) =>
   cond b140
    (T.loads a1 [.slice 102, .slice 102, .slice 78, .slice 9] <| fun (p141 : Option Addr) (l142 : Nat) (l143 : Nat) (p144 : Option Addr) (l145 : Nat) (l146 : Nat) (p147 : Option Addr) (l148 : Nat) (l149 : Nat) (p150 : Option Addr) (l151 : Nat) (l152 : Nat) =>
    T.loads a42 [.slice 102, .slice 102, .slice 78, .slice 9] <| fun (p153 : Option Addr) (l154 : Nat) (l155 : Nat) (p156 : Option Addr) (l157 : Nat) (l158 : Nat) (p159 : Option Addr) (l160 : Nat) (l161 : Nat) (p162 : Option Addr) (l163 : Nat) (l164 : Nat) =>
    T.call Tryz.prog 9 [.agg #[.slice p141 l142 l143, .slice p144 l145 l146, .slice p147 l148 l149, .slice p150 l151 l152], .agg #[.slice p153 l154 l155, .slice p156 l157 l158, .slice p159 l160 l161, .slice p162 l163 l164]] false [(false, [.bool])] <| fun (b165 : Bool) =>
    cond b165
     (T.loads a1 [.slice 102, .slice 102, .slice 78, .slice 9] <| fun (p166 : Option Addr) (l167 : Nat) (l168 : Nat) (p169 : Option Addr) (l170 : Nat) (l171 : Nat) (p172 : Option Addr) (l173 : Nat) (l174 : Nat) (p175 : Option Addr) (l176 : Nat) (l177 : Nat) =>
     T.call Tryz.prog 17 [.agg #[.slice p166 l167 l168, .slice p169 l170 l171, .slice p172 l173 l174, .slice p175 l176 l177]] false [(false, [.int .i64])] <| fun (n178 : Int) =>
     cond (n178 == (0 : Int))
      (T.call Tryz.prog 18 [.pointer (some a43), .func (Fn.func 19) #[] #[]] false [(false, [.bool])] <| fun (b179 : Bool) =>
      cond b179
       (T.call Tryz.prog 11 [] false [(false, [.bool])] <| fun (b180 : Bool) =>
       T.ret (.bool b180))
       (T.ret (.bool false)))
      (T.ret (.bool false)))
     (T.ret (.bool false)))
    (T.ret (.bool false))))
theorem t_spandrellaw10_ObjectKept_eq (pp00 : Option Addr) (ll00 cc00 : Nat) (pp01 : Option Addr) (ll01 cc01 : Nat) (pp02 : Option Addr) (ll02 cc02 : Nat) (pp03 : Option Addr) (ll03 cc03 : Nat) : xfun Tryz.prog [] Tryz.f4 [.agg #[.slice pp00 ll00 cc00, .slice pp01 ll01 cc01, .slice pp02 ll02 cc02, .slice pp03 ll03 cc03]] = t_spandrellaw10_ObjectKept pp00 ll00 cc00 pp01 ll01 cc01 pp02 ll02 cc02 pp03 ll03 cc03 := by kernel_rfl

end Go.Sx
