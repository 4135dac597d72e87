/- Trees of functions, each checked by the kernel against the code. No condition. -/
import Derived.Test.YtpbjlnlekobodaaSxF
import Derived.Test.YtpbjlnlekobodaaProg
import Derived.KernelRfl
set_option linter.unusedVariables false
set_option linter.unusedSimpArgs false
set_option linter.deprecated false
set_option maxRecDepth 100000
namespace Go.Sx
open Go.Proofs
/-- The tree of 25. -/
def t_equ_turning (pp00 : Option Addr) (ll00 cc00 : Nat) : T :=
 T.new [.slice pp00 ll00 cc00] 22 <| fun (a1 : Addr) =>
 T.loads a1 [.slice 38] <| fun (p2 : Option Addr) (l3 : Nat) (l4 : Nat) =>
 T.call Try.prog 26 [.slice p2 l3 l4] false [(false, [.map 9 3])] <| fun (r5 : Option Nat) =>
 T.new [.map none] 65 <| fun (a6 : Addr) =>
 T.stores a6 [.map r5] <|
 T.sem Try.prog (Instr.makeMap 32 none) false [(false, [.map 0 0])] <| fun (r7 : Option Nat) =>
 T.new [.map none] 32 <| fun (a8 : Addr) =>
 T.stores a8 [.map r7] <|
 T.sem Try.prog (Instr.makeMap 65 none) false [(false, [.map 0 0])] <| fun (r9 : Option Nat) =>
 T.sem Try.prog (Instr.makeMap 65 none) false [(false, [.map 0 0])] <| fun (r10 : Option Nat) =>
 T.new [.map none] 65 <| fun (a11 : Addr) =>
 T.new [.map none] 65 <| fun (a12 : Addr) =>
 T.stores a11 [.map r9] <|
 T.stores a12 [.map r10] <|
 T.new [.slice none 0 0] 29 <| fun (a13 : Addr) =>
 T.sem Try.prog (Instr.makeMap 32 none) false [(false, [.map 0 0])] <| fun (r14 : Option Nat) =>
 T.new [.map none] 32 <| fun (a15 : Addr) =>
 T.stores a15 [.map r14] <|
 T.new [.nilFunc] 83 <| fun (a16 : Addr) =>
 T.stores a16 [.func (Fn.func 40) #[] #[.pointer (some a11), .pointer (some a12), .pointer (some a13), .pointer (some a15), .pointer (some a1), .pointer (some a6), .pointer (some a8), .pointer (some a16)]] <|
 T.loads a1 [.slice 38] <| fun (p17 : Option Addr) (l18 : Nat) (l19 : Nat) =>
 T.loop [(false, [.int .i64])] [.int .i64 (0 : Int)] <| fun (n20 : Int) =>
 cond (decide (n20 < (l18 : Int)))
  (T.need (((0 : Int) ≤ n20) ∧ (n20 < (l18 : Int))) <|
  T.osome p17 <| fun (a21 : Addr) =>
  T.loads (a21.add ((Int.toNat n20) * 3)) [.string, .slice 40, .int .u32] <| fun (s22 : ByteArray) (p23 : Option Addr) (l24 : Nat) (l25 : Nat) (n26 : Int) =>
  T.new [.string ⟨#[]⟩, .slice none 0 0, .int .u32 (0 : Int)] 38 <| fun (a27 : Addr) =>
  T.stores a27 [.string s22, .slice p23 l24 l25, .int .u32 n26] <|
  T.loads a11 [.map 9 3] <| fun (r28 : Option Nat) =>
  T.loads a27 [.string] <| fun (s29 : ByteArray) =>
  T.sem Try.prog (Instr.lookup 65 (.map r28) (.string s29) false) false [(false, [.int .i64])] <| fun (n30 : Int) =>
  cond (n30 == (0 : Int))
   (T.loads a16 [.func #[9] #[] false] <| fun (v31 : Value) =>
   T.loads a27 [.string] <| fun (s32 : ByteArray) =>
   T.callv Try.prog v31 [.string s32] true [] <| T.again 0 [.int .i64 (IntKind.wrap .i64 (n20 + (1 : Int)))])
   (T.again 0 [.int .i64 (IntKind.wrap .i64 (n20 + (1 : Int)))]))
  (T.loads a8 [.map 9 4] <| fun (r21 : Option Nat) =>
  T.ret (.map r21))
theorem t_equ_turning_eq (pp00 : Option Addr) (ll00 cc00 : Nat) : xfun Try.prog [] Try.f25 [.slice pp00 ll00 cc00] = t_equ_turning pp00 ll00 cc00 := by kernel_rfl

/-- The tree of 26. -/
def t_equ_numbers (pp00 : Option Addr) (ll00 cc00 : Nat) : T :=
 T.sem Try.prog (Instr.makeMap 65 none) false [(false, [.map 0 0])] <| fun (r1 : Option Nat) =>
 T.loop [(false, [.int .i64])] [.int .i64 (0 : Int)] <| fun (n2 : Int) =>
 cond (decide (n2 < (ll00 : Int)))
  (T.need (((0 : Int) ≤ n2) ∧ (n2 < (ll00 : Int))) <|
  T.osome pp00 <| fun (a3 : Addr) =>
  T.loads (a3.add ((Int.toNat n2) * 3)) [.string, .slice 40, .int .u32] <| fun (s4 : ByteArray) (p5 : Option Addr) (l6 : Nat) (l7 : Nat) (n8 : Int) =>
  T.new [.string ⟨#[]⟩, .slice none 0 0, .int .u32 (0 : Int)] 38 <| fun (a9 : Addr) =>
  T.stores a9 [.string s4, .slice p5 l6 l7, .int .u32 n8] <|
  T.loads a9 [.string] <| fun (s10 : ByteArray) =>
  T.semU Try.prog (Instr.mapUpdate 65 (.map r1) (.string s10) (.int .i64 n2)) <|
  T.again 0 [.int .i64 (IntKind.wrap .i64 (n2 + (1 : Int)))])
  (T.ret (.map r1))
theorem t_equ_numbers_eq (pp00 : Option Addr) (ll00 cc00 : Nat) : xfun Try.prog [] Try.f26 [.slice pp00 ll00 cc00] = t_equ_numbers pp00 ll00 cc00 := by kernel_rfl

/-- The tree of 28. -/
def t_equ_put (pp00 : Option Addr) (ll00 cc00 : Nat) (n1_0 : Int) (r1 : Option Nat) : T :=
 T.new [.slice pp00 ll00 cc00, .int .u32 n1_0] 36 <| fun (a2 : Addr) =>
 T.new [.slice none 0 0, .int .u32 (0 : Int)] 36 <| fun (a3 : Addr) =>
 T.sem Try.prog (Instr.makeMap 31 none) false [(false, [.map 0 0])] <| fun (r4 : Option Nat) =>
 T.loads (a2.add 1) [.int .u32] <| fun (n5 : Int) =>
 T.loads a2 [.slice 40] <| fun (p6 : Option Addr) (l7 : Nat) (l8 : Nat) =>
 T.loop [(false, [.int .u32]), (false, [.int .i64])] [.int .u32 n5, .int .i64 (0 : Int)] <| fun (n9 : Int) (n10 : Int) =>
 cond (decide (n10 < (l7 : Int)))
  (T.need (((0 : Int) ≤ n10) ∧ (n10 < (l7 : Int))) <|
  T.osome p6 <| fun (a11 : Addr) =>
  T.loads (a11.add ((Int.toNat n10) * 2)) [.string, .int .u32] <| fun (s12 : ByteArray) (n13 : Int) =>
  T.new [.string ⟨#[]⟩, .int .u32 (0 : Int)] 40 <| fun (a14 : Addr) =>
  T.stores a14 [.string s12, .int .u32 n13] <|
  T.loads a14 [.string] <| fun (s15 : ByteArray) =>
  T.sem Try.prog (Instr.lookup 67 (.map r1) (.string s15) true) true [(true, [.slice 40, .int .u32]), (false, [.bool])] <| fun (p16 : Option Addr) (l17 : Nat) (l18 : Nat) (n19 : Int) (b20 : Bool) =>
  T.new [.slice none 0 0, .int .u32 (0 : Int)] 36 <| fun (a21 : Addr) =>
  T.stores a21 [.slice p16 l17 l18, .int .u32 n19] <|
  cond (!b20)
   (T.loads a14 [.string] <| fun (s22 : ByteArray) =>
   T.sem Try.prog (Instr.lookup 31 (.map r4) (.string s22) false) false [(false, [.int .u32])] <| fun (n23 : Int) =>
   T.loads (a14.add 1) [.int .u32] <| fun (n24 : Int) =>
   T.semU Try.prog (Instr.mapUpdate 31 (.map r4) (.string s22) (.int .u32 (IntKind.wrap .u32 (n23 + n24)))) <|
   T.again 0 [.int .u32 n9, .int .i64 (IntKind.wrap .i64 (n10 + (1 : Int)))])
   (T.loads a21 [.slice 40] <| fun (p22 : Option Addr) (l23 : Nat) (l24 : Nat) =>
   T.loop [(false, [.int .i64])] [.int .i64 (0 : Int)] <| fun (n25 : Int) =>
   cond (decide (n25 < (l23 : Int)))
    (T.need (((0 : Int) ≤ n25) ∧ (n25 < (l23 : Int))) <|
    T.osome p22 <| fun (a26 : Addr) =>
    T.loads (a26.add ((Int.toNat n25) * 2)) [.string, .int .u32] <| fun (s27 : ByteArray) (n28 : Int) =>
    T.new [.string ⟨#[]⟩, .int .u32 (0 : Int)] 40 <| fun (a29 : Addr) =>
    T.stores a29 [.string s27, .int .u32 n28] <|
    T.loads a29 [.string] <| fun (s30 : ByteArray) =>
    T.sem Try.prog (Instr.lookup 31 (.map r4) (.string s30) false) false [(false, [.int .u32])] <| fun (n31 : Int) =>
    T.loads (a14.add 1) [.int .u32] <| fun (n32 : Int) =>
    T.loads (a29.add 1) [.int .u32] <| fun (n33 : Int) =>
    T.semU Try.prog (Instr.mapUpdate 31 (.map r4) (.string s30) (.int .u32 (IntKind.wrap .u32 (n31 + (IntKind.wrap .u32 (n32 * n33)))))) <|
    T.again 1 [.int .i64 (IntKind.wrap .i64 (n25 + (1 : Int)))])
    (T.loads (a14.add 1) [.int .u32] <| fun (n26 : Int) =>
    T.loads (a21.add 1) [.int .u32] <| fun (n27 : Int) =>
    T.again 0 [.int .u32 (IntKind.wrap .u32 (n9 + (IntKind.wrap .u32 (n26 * n27)))), .int .i64 (IntKind.wrap .i64 (n10 + (1 : Int)))])))
  (T.new [.slice none 0 0, .int .u32 (0 : Int)] 36 <| fun (a11 : Addr) =>
  T.stores a11 [.slice none 0 0, .int .u32 n9] <|
  T.call Try.prog 43 [.map r4] false [(false, [.func #[63] #[] false])] <| fun (v12 : Value) =>
  T.call Try.prog 42 [v12] false [(false, [.slice 9])] <| fun (p13 : Option Addr) (l14 : Nat) (l15 : Nat) =>
  T.loop [(false, [.int .i64])] [.int .i64 (0 : Int)] <| fun (n16 : Int) =>
  cond (decide (n16 < (l14 : Int)))
   (T.need (((0 : Int) ≤ n16) ∧ (n16 < (l14 : Int))) <|
   T.osome p13 <| fun (a17 : Addr) =>
   T.loads (a17.add ((Int.toNat n16) * 1)) [.string] <| fun (s18 : ByteArray) =>
   T.sem Try.prog (Instr.lookup 31 (.map r4) (.string s18) false) false [(false, [.int .u32])] <| fun (n19 : Int) =>
   cond (n19 != (0 : Int))
    (T.loads a11 [.slice 40] <| fun (p20 : Option Addr) (l21 : Nat) (l22 : Nat) =>
    T.sem Try.prog (Instr.lookup 31 (.map r4) (.string s18) false) false [(false, [.int .u32])] <| fun (n23 : Int) =>
    T.sem Try.prog (Instr.buildSlice 33 1 #[(0, .agg #[.string s18, .int .u32 n23])]) false [(false, [.slice 0])] <| fun (p24 : Option Addr) (l25 : Nat) (l26 : Nat) =>
    T.sem Try.prog (Builtin.append_ #[33, 33] 33 #[.slice p20 l21 l22, .slice p24 l25 l26]) false [(false, [.slice 0])] <| fun (p27 : Option Addr) (l28 : Nat) (l29 : Nat) =>
    T.stores a11 [.slice p27 l28 l29] <|
    T.again 1 [.int .i64 (IntKind.wrap .i64 (n16 + (1 : Int)))])
    (T.again 1 [.int .i64 (IntKind.wrap .i64 (n16 + (1 : Int)))]))
   (T.loads a11 [.slice 40, .int .u32] <| fun (p17 : Option Addr) (l18 : Nat) (l19 : Nat) (n20 : Int) =>
   T.stores a3 [.slice p17 l18 l19, .int .u32 n20] <|
   T.loads a3 [.slice 40, .int .u32] <| fun (p21 : Option Addr) (l22 : Nat) (l23 : Nat) (n24 : Int) =>
   T.ret (.agg #[.slice p21 l22 l23, .int .u32 n24])))
theorem t_equ_put_eq (pp00 : Option Addr) (ll00 cc00 : Nat) (n1_0 : Int) (r1 : Option Nat) : xfun Try.prog [] Try.f28 [.agg #[.slice pp00 ll00 cc00, .int .u32 n1_0], .map r1] = t_equ_put pp00 ll00 cc00 n1_0 r1 := by kernel_rfl

/-- The tree of 9. -/
def t_equ_Solve (pp00 : Option Addr) (ll00 cc00 : Nat) : T :=
 T.new [.slice pp00 ll00 cc00] 22 <| fun (a1 : Addr) =>
 T.loads a1 [.slice 38] <| fun (p2 : Option Addr) (l3 : Nat) (l4 : Nat) =>
 T.call Try.prog 25 [.slice p2 l3 l4] false [(false, [.map 9 4])] <| fun (r5 : Option Nat) =>
 T.loads a1 [.slice 38] <| fun (p6 : Option Addr) (l7 : Nat) (l8 : Nat) =>
 T.loop [(false, [.slice 0]), (false, [.int .i64]), (false, [.int .i64]), (false, [.int .i64])] [.slice none 0 0, .int .i64 (0 : Int), .int .i64 (0 : Int), .int .i64 (0 : Int)] <| fun (p9 : Option Addr) (l10 : Nat) (l11 : Nat) (n12 : Int) (n13 : Int) (n14 : Int) =>
 cond (decide (n14 < (l7 : Int)))
  (T.need (((0 : Int) ≤ n14) ∧ (n14 < (l7 : Int))) <|
  T.osome p6 <| fun (a15 : Addr) =>
  T.loads (a15.add ((Int.toNat n14) * 3)) [.string, .slice 40, .int .u32] <| fun (s16 : ByteArray) (p17 : Option Addr) (l18 : Nat) (l19 : Nat) (n20 : Int) =>
  T.new [.string ⟨#[]⟩, .slice none 0 0, .int .u32 (0 : Int)] 38 <| fun (a21 : Addr) =>
  T.stores a21 [.string s16, .slice p17 l18 l19, .int .u32 n20] <|
  T.loads a21 [.string] <| fun (s22 : ByteArray) =>
  T.sem Try.prog (Instr.lookup 32 (.map r5) (.string s22) false) false [(false, [.bool])] <| fun (b23 : Bool) =>
  cond b23
   (T.ret (.tuple #[.slice none 0 0, .int .i64 n14, .int .i64 (24 : Int)]))
   (T.again 0 [.slice p9 l10 l11, .int .i64 n12, .int .i64 n13, .int .i64 (IntKind.wrap .i64 (n14 + (1 : Int)))]))
  (T.loads a1 [.slice 38] <| fun (p15 : Option Addr) (l16 : Nat) (l17 : Nat) =>
  T.call Try.prog 26 [.slice p15 l16 l17] false [(false, [.map 9 3])] <| fun (r18 : Option Nat) =>
  T.new [.map none] 65 <| fun (a19 : Addr) =>
  T.stores a19 [.map r18] <|
  T.sem Try.prog (Instr.makeMap 67 none) false [(false, [.map 0 0])] <| fun (r20 : Option Nat) =>
  T.new [.map none] 67 <| fun (a21 : Addr) =>
  T.stores a21 [.map r20] <|
  T.new [.nilFunc] 68 <| fun (a22 : Addr) =>
  T.stores a22 [.func (Fn.func 27) #[] #[.pointer (some a21), .pointer (some a1), .pointer (some a19), .pointer (some a22)]] <|
  T.loads a1 [.slice 38] <| fun (p23 : Option Addr) (l24 : Nat) (l25 : Nat) =>
  T.loop [(false, [.slice 0]), (false, [.int .i64])] [.slice none 0 0, .int .i64 (0 : Int)] <| fun (p26 : Option Addr) (l27 : Nat) (l28 : Nat) (n29 : Int) =>
  cond (decide (n29 < (l24 : Int)))
   (T.need (((0 : Int) ≤ n29) ∧ (n29 < (l24 : Int))) <|
   T.osome p23 <| fun (a30 : Addr) =>
   T.loads (a30.add ((Int.toNat n29) * 3)) [.string, .slice 40, .int .u32] <| fun (s31 : ByteArray) (p32 : Option Addr) (l33 : Nat) (l34 : Nat) (n35 : Int) =>
   T.new [.string ⟨#[]⟩, .slice none 0 0, .int .u32 (0 : Int)] 38 <| fun (a36 : Addr) =>
   T.stores a36 [.string s31, .slice p32 l33 l34, .int .u32 n35] <|
   T.loads a22 [.func #[9] #[36] false] <| fun (v37 : Value) =>
   T.loads a36 [.string] <| fun (s38 : ByteArray) =>
   T.callv Try.prog v37 [.string s38] false [(true, [.slice 40, .int .u32])] <| fun (p39 : Option Addr) (l40 : Nat) (l41 : Nat) (n42 : Int) =>
   T.new [.slice none 0 0, .int .u32 (0 : Int)] 36 <| fun (a43 : Addr) =>
   T.stores a43 [.slice p39 l40 l41, .int .u32 n42] <|
   T.loads a36 [.string] <| fun (s44 : ByteArray) =>
   T.loads a43 [.slice 40] <| fun (p45 : Option Addr) (l46 : Nat) (l47 : Nat) =>
   T.loads (a43.add 1) [.int .u32] <| fun (n48 : Int) =>
   T.call Try.prog 29 [.slice p45 l46 l47] false [(false, [.slice 40])] <| fun (p49 : Option Addr) (l50 : Nat) (l51 : Nat) =>
   T.stable [((a43.add 1), [.int .u32 n48]), (a36, [.string s44])] <|
   T.sem Try.prog (Instr.buildSlice 22 1 #[(0, .agg #[.string s44, .slice p49 l50 l51, .int .u32 n48])]) false [(false, [.slice 0])] <| fun (p52 : Option Addr) (l53 : Nat) (l54 : Nat) =>
   T.stable [((a43.add 1), [.int .u32 n48]), (a43, [.slice p45 l46 l47]), (a36, [.string s44])] <|
   T.sem Try.prog (Builtin.append_ #[22, 22] 22 #[.slice p26 l27 l28, .slice p52 l53 l54]) false [(false, [.slice 0])] <| fun (p55 : Option Addr) (l56 : Nat) (l57 : Nat) =>
   T.stable [((a43.add 1), [.int .u32 n48]), (a43, [.slice p45 l46 l47]), (a36, [.string s44])] <|
   T.again 1 [.slice p55 l56 l57, .int .i64 (IntKind.wrap .i64 (n29 + (1 : Int)))])
   (T.ret (.tuple #[.slice p26 l27 l28, .int .i64 (0 : Int), .int .i64 (0 : Int)])))
theorem t_equ_Solve_eq (pp00 : Option Addr) (ll00 cc00 : Nat) : xfun Try.prog [] Try.f9 [.slice pp00 ll00 cc00] = t_equ_Solve pp00 ll00 cc00 := by kernel_rfl

/-- The tree of 10. -/
def t_equ_Cycle (pp00 : Option Addr) (ll00 cc00 : Nat) : T :=
 T.call Try.prog 25 [.slice pp00 ll00 cc00] false [(false, [.map 9 4])] <| fun (r1 : Option Nat) =>
 T.sem Try.prog (Instr.range 32 (.map r1)) false [(false, [.pointer 0])] <| fun (p2 : Option Addr) =>
 T.loop [(false, [.slice 0])] [.slice none 0 0] <| fun (p3 : Option Addr) (l4 : Nat) (l5 : Nat) =>
 T.next Try.prog (Instr.next (.pointer p2) false 0) [(false, [.string]), (false, [.bool])]
  (T.call Try.prog 30 [.slice p3 l4 l5] true [] <| T.ret (.slice p3 l4 l5))
  (fun (s6 : ByteArray) (b7 : Bool) =>
  T.sem Try.prog (Instr.entry (.pointer p2)) true [(false, [.string]), (false, [.bool])] <| fun (s8 : ByteArray) (b9 : Bool) =>
  cond b9
   (T.sem Try.prog (Instr.buildSlice 29 1 #[(0, .string s8)]) false [(false, [.slice 0])] <| fun (p10 : Option Addr) (l11 : Nat) (l12 : Nat) =>
   T.sem Try.prog (Builtin.append_ #[29, 29] 29 #[.slice p3 l4 l5, .slice p10 l11 l12]) false [(false, [.slice 0])] <| fun (p13 : Option Addr) (l14 : Nat) (l15 : Nat) =>
   T.again 0 [.slice p13 l14 l15])
   (T.again 0 [.slice p3 l4 l5]))
theorem t_equ_Cycle_eq (pp00 : Option Addr) (ll00 cc00 : Nat) : xfun Try.prog [] Try.f10 [.slice pp00 ll00 cc00] = t_equ_Cycle pp00 ll00 cc00 := by kernel_rfl

/-- The tree of 15. -/
def t_equ_Put (pp00 : Option Addr) (ll00 cc00 : Nat) (n1_0 : Int) (pp10 : Option Addr) (ll10 cc10 : Nat) : T :=
 T.new [.slice pp00 ll00 cc00, .int .u32 n1_0] 36 <| fun (a2 : Addr) =>
 T.new [.slice none 0 0, .int .u32 (0 : Int)] 36 <| fun (a3 : Addr) =>
 T.sem Try.prog (Instr.makeMap 67 none) false [(false, [.map 0 0])] <| fun (r4 : Option Nat) =>
 T.loop [(false, [.int .i64])] [.int .i64 (0 : Int)] <| fun (n5 : Int) =>
 cond (decide (n5 < (ll10 : Int)))
  (T.need (((0 : Int) ≤ n5) ∧ (n5 < (ll10 : Int))) <|
  T.osome pp10 <| fun (a6 : Addr) =>
  T.loads (a6.add ((Int.toNat n5) * 3)) [.string, .slice 40, .int .u32] <| fun (s7 : ByteArray) (p8 : Option Addr) (l9 : Nat) (l10 : Nat) (n11 : Int) =>
  T.new [.string ⟨#[]⟩, .slice none 0 0, .int .u32 (0 : Int)] 38 <| fun (a12 : Addr) =>
  T.stores a12 [.string s7, .slice p8 l9 l10, .int .u32 n11] <|
  T.loads a12 [.string] <| fun (s13 : ByteArray) =>
  T.loads (a12.add 1) [.slice 40, .int .u32] <| fun (p14 : Option Addr) (l15 : Nat) (l16 : Nat) (n17 : Int) =>
  T.semU Try.prog (Instr.mapUpdate 67 (.map r4) (.string s13) (.agg #[.slice p14 l15 l16, .int .u32 n17])) <|
  T.again 0 [.int .i64 (IntKind.wrap .i64 (n5 + (1 : Int)))])
  (T.loads a2 [.slice 40, .int .u32] <| fun (p6 : Option Addr) (l7 : Nat) (l8 : Nat) (n9 : Int) =>
  T.call Try.prog 28 [.agg #[.slice p6 l7 l8, .int .u32 n9], .map r4] false [(true, [.slice 40, .int .u32])] <| fun (p10 : Option Addr) (l11 : Nat) (l12 : Nat) (n13 : Int) =>
  T.call Try.prog 34 [.agg #[.slice p10 l11 l12, .int .u32 n13], .agg #[.slice none 0 0, .int .u32 (0 : Int)]] false [(true, [.slice 40, .int .u32])] <| fun (p14 : Option Addr) (l15 : Nat) (l16 : Nat) (n17 : Int) =>
  T.stores a3 [.slice p14 l15 l16, .int .u32 n17] <|
  T.loads a3 [.slice 40, .int .u32] <| fun (p18 : Option Addr) (l19 : Nat) (l20 : Nat) (n21 : Int) =>
  T.ret (.agg #[.slice p18 l19 l20, .int .u32 n21]))
theorem t_equ_Put_eq (pp00 : Option Addr) (ll00 cc00 : Nat) (n1_0 : Int) (pp10 : Option Addr) (ll10 cc10 : Nat) : xfun Try.prog [] Try.f15 [.agg #[.slice pp00 ll00 cc00, .int .u32 n1_0], .slice pp10 ll10 cc10] = t_equ_Put pp00 ll00 cc00 n1_0 pp10 ll10 cc10 := by kernel_rfl

/-- The tree of 41. -/
def t_slices_Index___string_string_ (pp00 : Option Addr) (ll00 cc00 : Nat) (s1 : ByteArray) : T :=
 T.loop [(false, [.int .i64]), (false, [.int .i64])] [.int .i64 (0 : Int), .int .i64 (0 : Int)] <| fun (n2 : Int) (n3 : Int) =>
 cond (decide (n3 < (ll00 : Int)))
  (T.need (((0 : Int) ≤ n3) ∧ (n3 < (ll00 : Int))) <|
  T.osome pp00 <| fun (a4 : Addr) =>
  T.loads (a4.add ((Int.toNat n3) * 1)) [.string] <| fun (s5 : ByteArray) =>
  cond ((ByteArray.toList s1) == (ByteArray.toList s5))
   (T.ret (.int .i64 n3))
   (T.again 0 [.int .i64 n2, .int .i64 (IntKind.wrap .i64 (n3 + (1 : Int)))]))
  (T.ret (.int .i64 (-1 : Int)))
theorem t_slices_Index___string_string__eq (pp00 : Option Addr) (ll00 cc00 : Nat) (s1 : ByteArray) : xfun Try.prog [] Try.f41 [.slice pp00 ll00 cc00, .string s1] = t_slices_Index___string_string_ pp00 ll00 cc00 s1 := by kernel_rfl

end Go.Sx
