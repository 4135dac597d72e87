/- Trees of functions, each checked by the kernel against the code. No condition. -/
import Derived.Test.YtpbjlnlekobodaaSxF
import Derived.Test.YtpbjlnlekobodaaProg
import Derived.KernelRfl
set_option linter.unusedVariables false
set_option linter.unusedSimpArgs false
set_option linter.deprecated false
set_option maxRecDepth 100000
namespace Go.Sx
open Go.Proofs
/-- The tree of 40, at some arguments. -/
def t_equ_turning_1_visit (s : ByteArray) (aN : Addr) (aL : Addr) (aW : Addr) (aO : Addr) (aE : Addr) (aA : Addr) (aB : Addr) (aV : Addr) : T :=
 T.loads aN [.map 9 3] <| fun (r1 : Option Nat) =>
 T.loads aN [.map 9 3] <| fun (r2 : Option Nat) =>
 T.sem Try.prog (Builtin.len_ #[65] 3 #[.map r2]) false [(false, [.int .i64])] <| fun (n3 : Int) =>
 T.semU Try.prog (Instr.mapUpdate 65 (.map r1) (.string s) (.int .i64 (IntKind.wrap .i64 (n3 + (1 : Int))))) <|
 T.loads aL [.map 9 3] <| fun (r4 : Option Nat) =>
 T.loads aN [.map 9 3] <| fun (r5 : Option Nat) =>
 T.sem Try.prog (Instr.lookup 65 (.map r5) (.string s) false) false [(false, [.int .i64])] <| fun (n6 : Int) =>
 T.semU Try.prog (Instr.mapUpdate 65 (.map r4) (.string s) (.int .i64 n6)) <|
 T.loads aW [.slice 9] <| fun (p7 : Option Addr) (l8 : Nat) (l9 : Nat) =>
 T.sem Try.prog (Instr.buildSlice 29 1 #[(0, .string s)]) false [(false, [.slice 0])] <| fun (p10 : Option Addr) (l11 : Nat) (l12 : Nat) =>
 T.sem Try.prog (Builtin.append_ #[29, 29] 29 #[.slice p7 l8 l9, .slice p10 l11 l12]) false [(false, [.slice 0])] <| fun (p13 : Option Addr) (l14 : Nat) (l15 : Nat) =>
 T.stores aW [.slice p13 l14 l15] <|
 T.loads aO [.map 9 4] <| fun (r16 : Option Nat) =>
 T.semU Try.prog (Instr.mapUpdate 32 (.map r16) (.string s) (.bool true)) <|
 T.loads aE [.slice 38] <| fun (p17 : Option Addr) (l18 : Nat) (l19 : Nat) =>
 T.loads aA [.map 9 3] <| fun (r20 : Option Nat) =>
 T.sem Try.prog (Instr.lookup 65 (.map r20) (.string s) false) false [(false, [.int .i64])] <| fun (n21 : Int) =>
 T.need (((0 : Int) ≤ n21) ∧ (n21 < (l18 : Int))) <|
 T.osome p17 <| fun (a22 : Addr) =>
 T.loads ((a22.add ((Int.toNat n21) * 3)).add 1) [.slice 40] <| fun (p23 : Option Addr) (l24 : Nat) (l25 : Nat) =>
 T.loop [(false, [.int .i64])] [.int .i64 (0 : Int)] <| fun (n26 : Int) =>
 cond (decide (n26 < (l24 : Int)))
  (T.need (((0 : Int) ≤ n26) ∧ (n26 < (l24 : Int))) <|
  T.osome p23 <| fun (a27 : Addr) =>
  T.loads (a27.add ((Int.toNat n26) * 2)) [.string, .int .u32] <| fun (s28 : ByteArray) (n29 : Int) =>
  T.new [.string ⟨#[]⟩, .int .u32 (0 : Int)] 40 <| fun (a30 : Addr) =>
  T.stores a30 [.string s28, .int .u32 n29] <|
  T.loads aA [.map 9 3] <| fun (r31 : Option Nat) =>
  T.loads a30 [.string] <| fun (s32 : ByteArray) =>
  T.sem Try.prog (Instr.lookup 65 (.map r31) (.string s32) true) true [(false, [.int .i64]), (false, [.bool])] <| fun (n33 : Int) (b34 : Bool) =>
  cond (!b34)
   (T.again 0 [.int .i64 (IntKind.wrap .i64 (n26 + (1 : Int)))])
   (T.loads a30 [.string] <| fun (s35 : ByteArray) =>
   cond ((ByteArray.toList s35) == (ByteArray.toList s))
    (T.loads aB [.map 9 4] <| fun (r36 : Option Nat) =>
    T.semU Try.prog (Instr.mapUpdate 32 (.map r36) (.string s) (.bool true)) <|
    T.loads aN [.map 9 3] <| fun (r37 : Option Nat) =>
    T.loads a30 [.string] <| fun (s38 : ByteArray) =>
    T.sem Try.prog (Instr.lookup 65 (.map r37) (.string s38) false) false [(false, [.int .i64])] <| fun (n39 : Int) =>
    cond (n39 == (0 : Int))
     (T.loads aV [.func #[9] #[] false] <| fun (v40 : Value) =>
     T.loads a30 [.string] <| fun (s41 : ByteArray) =>
     T.callv Try.prog v40 [.string s41] true [] <| T.loads aL [.map 9 3] <| fun (r42 : Option Nat) =>
     T.loads aL [.map 9 3] <| fun (r43 : Option Nat) =>
     T.sem Try.prog (Instr.lookup 65 (.map r43) (.string s) false) false [(false, [.int .i64])] <| fun (n44 : Int) =>
     T.loads aL [.map 9 3] <| fun (r45 : Option Nat) =>
     T.loads a30 [.string] <| fun (s46 : ByteArray) =>
     T.sem Try.prog (Instr.lookup 65 (.map r45) (.string s46) false) false [(false, [.int .i64])] <| fun (n47 : Int) =>
     T.sem Try.prog (Builtin.min_ #[3, 3] 3 #[.int .i64 n44, .int .i64 n47]) false [(false, [.int .i64])] <| fun (n48 : Int) =>
     T.semU Try.prog (Instr.mapUpdate 65 (.map r42) (.string s) (.int .i64 n48)) <|
     T.again 0 [.int .i64 (IntKind.wrap .i64 (n26 + (1 : Int)))])
     (T.loads aO [.map 9 4] <| fun (r40 : Option Nat) =>
     T.loads a30 [.string] <| fun (s41 : ByteArray) =>
     T.sem Try.prog (Instr.lookup 32 (.map r40) (.string s41) false) false [(false, [.bool])] <| fun (b42 : Bool) =>
     cond b42
      (T.loads aL [.map 9 3] <| fun (r43 : Option Nat) =>
      T.loads aL [.map 9 3] <| fun (r44 : Option Nat) =>
      T.sem Try.prog (Instr.lookup 65 (.map r44) (.string s) false) false [(false, [.int .i64])] <| fun (n45 : Int) =>
      T.loads aN [.map 9 3] <| fun (r46 : Option Nat) =>
      T.loads a30 [.string] <| fun (s47 : ByteArray) =>
      T.sem Try.prog (Instr.lookup 65 (.map r46) (.string s47) false) false [(false, [.int .i64])] <| fun (n48 : Int) =>
      T.sem Try.prog (Builtin.min_ #[3, 3] 3 #[.int .i64 n45, .int .i64 n48]) false [(false, [.int .i64])] <| fun (n49 : Int) =>
      T.semU Try.prog (Instr.mapUpdate 65 (.map r43) (.string s) (.int .i64 n49)) <|
      T.again 0 [.int .i64 (IntKind.wrap .i64 (n26 + (1 : Int)))])
      (T.again 0 [.int .i64 (IntKind.wrap .i64 (n26 + (1 : Int)))])))
    (T.loads aN [.map 9 3] <| fun (r36 : Option Nat) =>
    T.loads a30 [.string] <| fun (s37 : ByteArray) =>
    T.sem Try.prog (Instr.lookup 65 (.map r36) (.string s37) false) false [(false, [.int .i64])] <| fun (n38 : Int) =>
    cond (n38 == (0 : Int))
     (T.loads aV [.func #[9] #[] false] <| fun (v39 : Value) =>
     T.loads a30 [.string] <| fun (s40 : ByteArray) =>
     T.callv Try.prog v39 [.string s40] true [] <| T.loads aL [.map 9 3] <| fun (r41 : Option Nat) =>
     T.loads aL [.map 9 3] <| fun (r42 : Option Nat) =>
     T.sem Try.prog (Instr.lookup 65 (.map r42) (.string s) false) false [(false, [.int .i64])] <| fun (n43 : Int) =>
     T.loads aL [.map 9 3] <| fun (r44 : Option Nat) =>
     T.loads a30 [.string] <| fun (s45 : ByteArray) =>
     T.sem Try.prog (Instr.lookup 65 (.map r44) (.string s45) false) false [(false, [.int .i64])] <| fun (n46 : Int) =>
     T.sem Try.prog (Builtin.min_ #[3, 3] 3 #[.int .i64 n43, .int .i64 n46]) false [(false, [.int .i64])] <| fun (n47 : Int) =>
     T.semU Try.prog (Instr.mapUpdate 65 (.map r41) (.string s) (.int .i64 n47)) <|
     T.again 0 [.int .i64 (IntKind.wrap .i64 (n26 + (1 : Int)))])
     (T.loads aO [.map 9 4] <| fun (r39 : Option Nat) =>
     T.loads a30 [.string] <| fun (s40 : ByteArray) =>
     T.sem Try.prog (Instr.lookup 32 (.map r39) (.string s40) false) false [(false, [.bool])] <| fun (b41 : Bool) =>
     cond b41
      (T.loads aL [.map 9 3] <| fun (r42 : Option Nat) =>
      T.loads aL [.map 9 3] <| fun (r43 : Option Nat) =>
      T.sem Try.prog (Instr.lookup 65 (.map r43) (.string s) false) false [(false, [.int .i64])] <| fun (n44 : Int) =>
      T.loads aN [.map 9 3] <| fun (r45 : Option Nat) =>
      T.loads a30 [.string] <| fun (s46 : ByteArray) =>
      T.sem Try.prog (Instr.lookup 65 (.map r45) (.string s46) false) false [(false, [.int .i64])] <| fun (n47 : Int) =>
      T.sem Try.prog (Builtin.min_ #[3, 3] 3 #[.int .i64 n44, .int .i64 n47]) false [(false, [.int .i64])] <| fun (n48 : Int) =>
      T.semU Try.prog (Instr.mapUpdate 65 (.map r42) (.string s) (.int .i64 n48)) <|
      T.again 0 [.int .i64 (IntKind.wrap .i64 (n26 + (1 : Int)))])
      (T.again 0 [.int .i64 (IntKind.wrap .i64 (n26 + (1 : Int)))])))))
  (T.loads aL [.map 9 3] <| fun (r27 : Option Nat) =>
  T.sem Try.prog (Instr.lookup 65 (.map r27) (.string s) false) false [(false, [.int .i64])] <| fun (n28 : Int) =>
  T.loads aN [.map 9 3] <| fun (r29 : Option Nat) =>
  T.sem Try.prog (Instr.lookup 65 (.map r29) (.string s) false) false [(false, [.int .i64])] <| fun (n30 : Int) =>
  cond (decide (n28 < n30))
   (T.ret (.tuple #[]))
   (T.loads aW [.slice 9] <| fun (p31 : Option Addr) (l32 : Nat) (l33 : Nat) =>
   T.call Try.prog 41 [.slice p31 l32 l33, .string s] false [(false, [.int .i64])] <| fun (n34 : Int) =>
   T.loads aW [.slice 9] <| fun (p35 : Option Addr) (l36 : Nat) (l37 : Nat) =>
   T.need (((0 : Int) ≤ n34) ∧ ((n34 ≤ (l36 : Int)) ∧ ((l36 : Int) ≤ (l37 : Int)))) <|
   T.loop [(false, [.int .i64])] [.int .i64 (0 : Int)] <| fun (n38 : Int) =>
   cond (decide (n38 < ((((Int.toNat (l36 : Int)) - (Int.toNat n34)) : Nat) : Int)))
    (T.need (((0 : Int) ≤ n38) ∧ (n38 < ((((Int.toNat (l36 : Int)) - (Int.toNat n34)) : Nat) : Int))) <|
    T.osome (if (l37 = (Int.toNat n34)) then p35 else (Option.map (fun a => Addr.add a ((Int.toNat n34) * 1)) p35)) <| fun (a39 : Addr) =>
    T.loads (a39.add ((Int.toNat n38) * 1)) [.string] <| fun (s40 : ByteArray) =>
    T.loads aO [.map 9 4] <| fun (r41 : Option Nat) =>
    T.semU Try.prog (Instr.mapUpdate 32 (.map r41) (.string s40) (.bool false)) <|
    T.loads aB [.map 9 4] <| fun (r42 : Option Nat) =>
    T.loads aB [.map 9 4] <| fun (r43 : Option Nat) =>
    T.sem Try.prog (Instr.lookup 32 (.map r43) (.string s40) false) false [(false, [.bool])] <| fun (b44 : Bool) =>
    cond b44
     (T.semU Try.prog (Instr.mapUpdate 32 (.map r42) (.string s40) (.bool true)) <|
     T.again 1 [.int .i64 (IntKind.wrap .i64 (n38 + (1 : Int)))])
     (T.loads aW [.slice 9] <| fun (p45 : Option Addr) (l46 : Nat) (l47 : Nat) =>
     T.semU Try.prog (Instr.mapUpdate 32 (.map r42) (.string s40) (.bool (decide ((IntKind.wrap .i64 ((l46 : Int) - n34)) > (1 : Int))))) <|
     T.again 1 [.int .i64 (IntKind.wrap .i64 (n38 + (1 : Int)))]))
    (T.loads aW [.slice 9] <| fun (p39 : Option Addr) (l40 : Nat) (l41 : Nat) =>
    T.need (((0 : Int) ≤ (0 : Int)) ∧ (((0 : Int) ≤ n34) ∧ (n34 ≤ (l41 : Int)))) <|
    T.stores aW [.slice (if (l41 = 0) then p39 else (Option.map (fun a => Addr.add a 0) p39)) ((Int.toNat n34) - 0) (l41 - 0)] <|
    T.ret (.tuple #[]))))
theorem t_equ_turning_1_visit_eq (s : ByteArray) (aN : Addr) (aL : Addr) (aW : Addr) (aO : Addr) (aE : Addr) (aA : Addr) (aB : Addr) (aV : Addr) : xfun Try.prog [] Try.f40 [.string s, .pointer (some aN), .pointer (some aL), .pointer (some aW), .pointer (some aO), .pointer (some aE), .pointer (some aA), .pointer (some aB), .pointer (some aV)] = t_equ_turning_1_visit s aN aL aW aO aE aA aB aV := by kernel_rfl

/-- The tree of 27, at some arguments. -/
def t_equ_Solve_1_solve (s : ByteArray) (aD : Addr) (aE : Addr) (aA : Addr) (aV : Addr) : T :=
 T.new [.slice none 0 0, .int .u32 (0 : Int)] 36 <| fun (a1 : Addr) =>
 T.loads aD [.map 9 36] <| fun (r2 : Option Nat) =>
 T.sem Try.prog (Instr.lookup 67 (.map r2) (.string s) true) true [(true, [.slice 40, .int .u32]), (false, [.bool])] <| fun (p3 : Option Addr) (l4 : Nat) (l5 : Nat) (n6 : Int) (b7 : Bool) =>
 T.new [.slice none 0 0, .int .u32 (0 : Int)] 36 <| fun (a8 : Addr) =>
 T.stores a8 [.slice p3 l4 l5, .int .u32 n6] <|
 cond b7
  (T.loads a8 [.slice 40, .int .u32] <| fun (p9 : Option Addr) (l10 : Nat) (l11 : Nat) (n12 : Int) =>
  T.stores a1 [.slice p9 l10 l11, .int .u32 n12] <|
  T.loads a1 [.slice 40, .int .u32] <| fun (p13 : Option Addr) (l14 : Nat) (l15 : Nat) (n16 : Int) =>
  T.ret (.agg #[.slice p13 l14 l15, .int .u32 n16]))
  (T.loads aE [.slice 38] <| fun (p9 : Option Addr) (l10 : Nat) (l11 : Nat) =>
  T.loads aA [.map 9 3] <| fun (r12 : Option Nat) =>
  T.sem Try.prog (Instr.lookup 65 (.map r12) (.string s) false) false [(false, [.int .i64])] <| fun (n13 : Int) =>
  T.need (((0 : Int) ≤ n13) ∧ (n13 < (l10 : Int))) <|
  T.osome p9 <| fun (a14 : Addr) =>
  T.loads ((a14.add ((Int.toNat n13) * 3)).add 1) [.slice 40, .int .u32] <| fun (p15 : Option Addr) (l16 : Nat) (l17 : Nat) (n18 : Int) =>
  T.new [.slice none 0 0, .int .u32 (0 : Int)] 36 <| fun (a19 : Addr) =>
  T.stores a19 [.slice p15 l16 l17, .int .u32 n18] <|
  T.loads a19 [.slice 40] <| fun (p20 : Option Addr) (l21 : Nat) (l22 : Nat) =>
  T.loop [(false, [.int .i64])] [.int .i64 (0 : Int)] <| fun (n23 : Int) =>
  cond (decide (n23 < (l21 : Int)))
   (T.need (((0 : Int) ≤ n23) ∧ (n23 < (l21 : Int))) <|
   T.osome p20 <| fun (a24 : Addr) =>
   T.loads (a24.add ((Int.toNat n23) * 2)) [.string, .int .u32] <| fun (s25 : ByteArray) (n26 : Int) =>
   T.new [.string ⟨#[]⟩, .int .u32 (0 : Int)] 40 <| fun (a27 : Addr) =>
   T.stores a27 [.string s25, .int .u32 n26] <|
   T.loads aA [.map 9 3] <| fun (r28 : Option Nat) =>
   T.loads a27 [.string] <| fun (s29 : ByteArray) =>
   T.sem Try.prog (Instr.lookup 65 (.map r28) (.string s29) true) true [(false, [.int .i64]), (false, [.bool])] <| fun (n30 : Int) (b31 : Bool) =>
   cond b31
    (T.loads aV [.func #[9] #[36] false] <| fun (v32 : Value) =>
    T.loads a27 [.string] <| fun (s33 : ByteArray) =>
    T.callv Try.prog v32 [.string s33] false [(true, [.slice 40, .int .u32])] <| fun (p34 : Option Addr) (l35 : Nat) (l36 : Nat) (n37 : Int) =>
    T.again 0 [.int .i64 (IntKind.wrap .i64 (n23 + (1 : Int)))])
    (T.again 0 [.int .i64 (IntKind.wrap .i64 (n23 + (1 : Int)))]))
   (T.loads a19 [.slice 40, .int .u32] <| fun (p24 : Option Addr) (l25 : Nat) (l26 : Nat) (n27 : Int) =>
   T.loads aD [.map 9 36] <| fun (r28 : Option Nat) =>
   T.call Try.prog 28 [.agg #[.slice p24 l25 l26, .int .u32 n27], .map r28] false [(true, [.slice 40, .int .u32])] <| fun (p29 : Option Addr) (l30 : Nat) (l31 : Nat) (n32 : Int) =>
   T.stores a19 [.slice p29 l30 l31, .int .u32 n32] <|
   T.loads aD [.map 9 36] <| fun (r33 : Option Nat) =>
   T.loads a19 [.slice 40, .int .u32] <| fun (p34 : Option Addr) (l35 : Nat) (l36 : Nat) (n37 : Int) =>
   T.semU Try.prog (Instr.mapUpdate 67 (.map r33) (.string s) (.agg #[.slice p34 l35 l36, .int .u32 n37])) <|
   T.loads a19 [.slice 40, .int .u32] <| fun (p38 : Option Addr) (l39 : Nat) (l40 : Nat) (n41 : Int) =>
   T.stores a1 [.slice p38 l39 l40, .int .u32 n41] <|
   T.loads a1 [.slice 40, .int .u32] <| fun (p42 : Option Addr) (l43 : Nat) (l44 : Nat) (n45 : Int) =>
   T.ret (.agg #[.slice p42 l43 l44, .int .u32 n45])))
theorem t_equ_Solve_1_solve_eq (s : ByteArray) (aD : Addr) (aE : Addr) (aA : Addr) (aV : Addr) : xfun Try.prog [] Try.f27 [.string s, .pointer (some aD), .pointer (some aE), .pointer (some aA), .pointer (some aV)] = t_equ_Solve_1_solve s aD aE aA aV := by kernel_rfl

end Go.Sx
