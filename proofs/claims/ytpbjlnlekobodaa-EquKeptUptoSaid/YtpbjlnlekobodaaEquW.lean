/- Trees of functions, each checked by the kernel against the code. No condition. -/
import Derived.Test.YtpbjlnlekobodaaSxF
import Derived.Test.YtpbjlnlekobodaaProg
import Derived.KernelRfl
set_option linter.unusedVariables false
set_option linter.unusedSimpArgs false
set_option linter.deprecated false
set_option maxRecDepth 100000
namespace Go.Sx
open Go.Proofs
/-- The tree of 3. -/
def t_spandrellaw11_EquValues (pp00 : Option Addr) (ll00 cc00 : Nat) (pp10 : Option Addr) (ll10 cc10 : Nat) : T :=
 T.call Try.prog 7 [.slice pp00 ll00 cc00] false [(false, [.bool])] <| fun (b2 : Bool) =>
 cond (!b2)
  (T.call Try.prog 8 [] false [(false, [.bool])] <| fun (b3 : Bool) =>
  T.ret (.bool b3))
  (cond ((ll10 : Int) == (0 : Int))
   (T.call Try.prog 8 [] false [(false, [.bool])] <| fun (b3 : Bool) =>
   T.ret (.bool b3))
   (T.call Try.prog 9 [.slice pp00 ll00 cc00] true [(false, [.slice 38]), (false, [.int .i64]), (false, [.int .i64])] <| fun (p3 : Option Addr) (l4 : Nat) (l5 : Nat) (n6 : Int) (n7 : Int) =>
   cond (n7 != (0 : Int))
    (T.call Try.prog 10 [.slice pp00 ll00 cc00] false [(false, [.slice 9])] <| fun (p8 : Option Addr) (l9 : Nat) (l10 : Nat) =>
    cond (decide ((l9 : Int) > (0 : Int)))
     (cond ((l4 : Int) == (0 : Int))
      (T.call Try.prog 8 [] false [(false, [.bool])] <| fun (b11 : Bool) =>
      T.ret (.bool b11))
      (T.ret (.bool false)))
     (T.ret (.bool false)))
    (T.call Try.prog 10 [.slice pp00 ll00 cc00] false [(false, [.slice 9])] <| fun (p8 : Option Addr) (l9 : Nat) (l10 : Nat) =>
    cond ((l9 : Int) != (0 : Int))
     (T.ret (.bool false))
     (cond ((l4 : Int) != (ll00 : Int))
      (T.ret (.bool false))
      (T.sem Try.prog (Instr.makeMap 31 none) false [(false, [.map 0 0])] <| fun (r11 : Option Nat) =>
      T.sem Try.prog (Instr.makeMap 32 none) false [(false, [.map 0 0])] <| fun (r12 : Option Nat) =>
      T.loop [(false, [.int .i64])] [.int .i64 (0 : Int)] <| fun (n13 : Int) =>
      cond (decide (n13 < (ll00 : Int)))
       (T.need (((0 : Int) ≤ n13) ∧ (n13 < (ll00 : Int))) <|
       T.osome pp00 <| fun (a14 : Addr) =>
       T.loads (a14.add ((Int.toNat n13) * 3)) [.string] <| fun (s15 : ByteArray) =>
       T.semU Try.prog (Instr.mapUpdate 32 (.map r12) (.string s15) (.bool true)) <|
       T.loop [(false, [.int .i64])] [.int .i64 (0 : Int)] <| fun (n16 : Int) =>
       T.need (((0 : Int) ≤ n13) ∧ (n13 < (ll00 : Int))) <|
       T.osome pp00 <| fun (a17 : Addr) =>
       T.loads ((a17.add ((Int.toNat n13) * 3)).add 1) [.slice 40] <| fun (p18 : Option Addr) (l19 : Nat) (l20 : Nat) =>
       cond (decide (n16 < (l19 : Int)))
        (T.need (((0 : Int) ≤ n13) ∧ (n13 < (ll00 : Int))) <|
        T.osome pp00 <| fun (a21 : Addr) =>
        T.loads ((a21.add ((Int.toNat n13) * 3)).add 1) [.slice 40] <| fun (p22 : Option Addr) (l23 : Nat) (l24 : Nat) =>
        T.need (((0 : Int) ≤ n16) ∧ (n16 < (l23 : Int))) <|
        T.osome p22 <| fun (a25 : Addr) =>
        T.loads (a25.add ((Int.toNat n16) * 2)) [.string] <| fun (s26 : ByteArray) =>
        T.need ((ll10 : Int) ≠ (0 : Int)) <|
        T.need (((0 : Int) ≤ (Int.tmod (IntKind.wrap .i64 (n13 + n16)) (ll10 : Int))) ∧ ((Int.tmod (IntKind.wrap .i64 (n13 + n16)) (ll10 : Int)) < (ll10 : Int))) <|
        T.osome pp10 <| fun (a27 : Addr) =>
        T.loads (a27.add ((Int.toNat (Int.tmod (IntKind.wrap .i64 (n13 + n16)) (ll10 : Int))) * 1)) [.int .u32] <| fun (n28 : Int) =>
        T.semU Try.prog (Instr.mapUpdate 31 (.map r11) (.string s26) (.int .u32 n28)) <|
        T.again 1 [.int .i64 (IntKind.wrap .i64 (n16 + (1 : Int)))])
        (T.again 0 [.int .i64 (IntKind.wrap .i64 (n13 + (1 : Int)))]))
       (T.loop [(false, [.bool]), (false, [.int .i64])] [.bool false, .int .i64 (0 : Int)] <| fun (b14 : Bool) (n15 : Int) =>
       cond (decide (n15 < (l4 : Int)))
        (T.loop [(false, [.bool]), (false, [.int .i64])] [.bool b14, .int .i64 (0 : Int)] <| fun (b16 : Bool) (n17 : Int) =>
        T.need (((0 : Int) ≤ n15) ∧ (n15 < (l4 : Int))) <|
        T.osome p3 <| fun (a18 : Addr) =>
        T.loads ((a18.add ((Int.toNat n15) * 3)).add 1) [.slice 40] <| fun (p19 : Option Addr) (l20 : Nat) (l21 : Nat) =>
        cond (decide (n17 < (l20 : Int)))
         (T.need (((0 : Int) ≤ n15) ∧ (n15 < (l4 : Int))) <|
         T.osome p3 <| fun (a22 : Addr) =>
         T.loads ((a22.add ((Int.toNat n15) * 3)).add 1) [.slice 40] <| fun (p23 : Option Addr) (l24 : Nat) (l25 : Nat) =>
         T.need (((0 : Int) ≤ n17) ∧ (n17 < (l24 : Int))) <|
         T.osome p23 <| fun (a26 : Addr) =>
         T.loads (a26.add ((Int.toNat n17) * 2)) [.string] <| fun (s27 : ByteArray) =>
         T.sem Try.prog (Instr.lookup 32 (.map r12) (.string s27) false) false [(false, [.bool])] <| fun (b28 : Bool) =>
         cond b28
          (T.ret (.bool false))
          (T.again 2 [.bool b16, .int .i64 (IntKind.wrap .i64 (n17 + (1 : Int)))]))
         (T.need (((0 : Int) ≤ n15) ∧ (n15 < (l4 : Int))) <|
         T.osome p3 <| fun (a22 : Addr) =>
         T.loads ((a22.add ((Int.toNat n15) * 3)).add 1) [.slice 40, .int .u32] <| fun (p23 : Option Addr) (l24 : Nat) (l25 : Nat) (n26 : Int) =>
         T.call Try.prog 11 [.agg #[.slice p23 l24 l25, .int .u32 n26], .map r11] true [(false, [.int .u32]), (false, [.bool])] <| fun (n27 : Int) (b28 : Bool) =>
         cond (!b28)
          (T.ret (.bool false))
          (T.need (((0 : Int) ≤ n15) ∧ (n15 < (l4 : Int))) <|
          T.osome p3 <| fun (a29 : Addr) =>
          T.loads (a29.add ((Int.toNat n15) * 3)) [.string] <| fun (s30 : ByteArray) =>
          T.need (((0 : Int) ≤ n15) ∧ (n15 < (ll00 : Int))) <|
          T.osome pp00 <| fun (a31 : Addr) =>
          T.loads (a31.add ((Int.toNat n15) * 3)) [.string] <| fun (s32 : ByteArray) =>
          cond (!((ByteArray.toList s30) == (ByteArray.toList s32)))
           (T.ret (.bool false))
           (T.need (((0 : Int) ≤ n15) ∧ (n15 < (ll00 : Int))) <|
           T.osome pp00 <| fun (a33 : Addr) =>
           T.loads (a33.add ((Int.toNat n15) * 3)) [.string] <| fun (s34 : ByteArray) =>
           T.need ((((1 + s34.size) : Nat) : Int) ≤ (9223372036854775807 : Int)) <|
           T.semU Try.prog (Instr.mapUpdate 31 (.map r11) (.string (⟨#[61]⟩ ++ s34)) (.int .u32 n27)) <|
           T.again 1 [.bool b16, .int .i64 (IntKind.wrap .i64 (n15 + (1 : Int)))]))))
        (T.loop [(false, [.int .i64])] [.int .i64 (0 : Int)] <| fun (n16 : Int) =>
        cond (decide (n16 < (l4 : Int)))
         (T.need (((0 : Int) ≤ n16) ∧ (n16 < (ll00 : Int))) <|
         T.osome pp00 <| fun (a17 : Addr) =>
         T.loads (a17.add ((Int.toNat n16) * 3)) [.string] <| fun (s18 : ByteArray) =>
         T.need (((0 : Int) ≤ n16) ∧ (n16 < (ll00 : Int))) <|
         T.osome pp00 <| fun (a19 : Addr) =>
         T.loads (a19.add ((Int.toNat n16) * 3)) [.string] <| fun (s20 : ByteArray) =>
         T.need ((((1 + s20.size) : Nat) : Int) ≤ (9223372036854775807 : Int)) <|
         T.sem Try.prog (Instr.lookup 31 (.map r11) (.string (⟨#[61]⟩ ++ s20)) false) false [(false, [.int .u32])] <| fun (n21 : Int) =>
         T.stable [((a19.add ((Int.toNat n16) * 3)), [.string s20]), ((a17.add ((Int.toNat n16) * 3)), [.string s18])] <|
         T.semU Try.prog (Instr.mapUpdate 31 (.map r11) (.string s18) (.int .u32 n21)) <|
         T.again 2 [.int .i64 (IntKind.wrap .i64 (n16 + (1 : Int)))])
         (T.loop [(false, [.bool]), (false, [.int .i64])] [.bool b14, .int .i64 (0 : Int)] <| fun (b17 : Bool) (n18 : Int) =>
         cond (decide (n18 < (ll00 : Int)))
          (T.need (((0 : Int) ≤ n18) ∧ (n18 < (ll00 : Int))) <|
          T.osome pp00 <| fun (a19 : Addr) =>
          T.loads ((a19.add ((Int.toNat n18) * 3)).add 1) [.slice 40, .int .u32] <| fun (p20 : Option Addr) (l21 : Nat) (l22 : Nat) (n23 : Int) =>
          T.call Try.prog 11 [.agg #[.slice p20 l21 l22, .int .u32 n23], .map r11] true [(false, [.int .u32]), (false, [.bool])] <| fun (n24 : Int) (b25 : Bool) =>
          cond (!b25)
           (T.ret (.bool false))
           (T.need (((0 : Int) ≤ n18) ∧ (n18 < (ll00 : Int))) <|
           T.osome pp00 <| fun (a26 : Addr) =>
           T.loads (a26.add ((Int.toNat n18) * 3)) [.string] <| fun (s27 : ByteArray) =>
           T.sem Try.prog (Instr.lookup 31 (.map r11) (.string s27) false) false [(false, [.int .u32])] <| fun (n28 : Int) =>
           cond (n24 != n28)
            (T.ret (.bool false))
            (T.again 3 [.bool b17, .int .i64 (IntKind.wrap .i64 (n18 + (1 : Int)))])))
          (T.call Try.prog 8 [] false [(false, [.bool])] <| fun (b19 : Bool) =>
          T.ret (.bool b19))))))))))
theorem t_spandrellaw11_EquValues_eq (pp00 : Option Addr) (ll00 cc00 : Nat) (pp10 : Option Addr) (ll10 cc10 : Nat) : xfun Try.prog [] Try.f3 [.slice pp00 ll00 cc00, .slice pp10 ll10 cc10] = t_spandrellaw11_EquValues pp00 ll00 cc00 pp10 ll10 cc10 := by kernel_rfl

/-- The tree of 4. -/
def t_spandrellaw11_EquKept (pp00 : Option Addr) (ll00 cc00 : Nat) (pp10 : Option Addr) (ll10 cc10 : Nat) (n1_1 : Int) : T :=
 T.new [.slice pp10 ll10 cc10, .int .u32 n1_1] 36 <| fun (a2 : Addr) =>
 T.call Try.prog 7 [.slice pp00 ll00 cc00] false [(false, [.bool])] <| fun (b3 : Bool) =>
 cond (!b3)
  (T.call Try.prog 8 [] false [(false, [.bool])] <| fun (b4 : Bool) =>
  T.ret (.bool b4))
  (T.loads a2 [.slice 40, .int .u32] <| fun (p4 : Option Addr) (l5 : Nat) (l6 : Nat) (n7 : Int) =>
  T.call Try.prog 12 [.agg #[.slice p4 l5 l6, .int .u32 n7]] false [(false, [.bool])] <| fun (b8 : Bool) =>
  cond (!b8)
   (T.call Try.prog 8 [] false [(false, [.bool])] <| fun (b9 : Bool) =>
   T.ret (.bool b9))
   (T.call Try.prog 13 [.agg #[.slice none 0 0, .slice none 0 0, .slice pp00 ll00 cc00, .slice none 0 0]] false [(true, [.slice 94, .slice 94, .slice 38, .slice 9])] <| fun (p9 : Option Addr) (l10 : Nat) (l11 : Nat) (p12 : Option Addr) (l13 : Nat) (l14 : Nat) (p15 : Option Addr) (l16 : Nat) (l17 : Nat) (p18 : Option Addr) (l19 : Nat) (l20 : Nat) =>
   T.new [.slice none 0 0, .slice none 0 0, .int .i64 (0 : Int), .bool false] 51 <| fun (a21 : Addr) =>
   T.loop [(false, [.int .i64])] [.int .i64 (0 : Int)] <| fun (n22 : Int) =>
   cond (decide (n22 < (2 : Int)))
    (T.call Try.prog 9 [.slice pp00 ll00 cc00] true [(false, [.slice 38]), (false, [.int .i64]), (false, [.int .i64])] <| fun (p23 : Option Addr) (l24 : Nat) (l25 : Nat) (n26 : Int) (n27 : Int) =>
    T.loop [(false, [.int .i64])] [.int .i64 (0 : Int)] <| fun (n28 : Int) =>
    cond (decide (n28 < (l24 : Int)))
     (T.need (((0 : Int) ≤ n28) ∧ (n28 < (l24 : Int))) <|
     T.osome p23 <| fun (a29 : Addr) =>
     T.loads ((a29.add ((Int.toNat n28) * 3)).add 1) [.slice 40] <| fun (p30 : Option Addr) (l31 : Nat) (l32 : Nat) =>
     T.call Try.prog 14 [.pointer (some a21), .slice p30 l31 l32] true [] <| T.again 1 [.int .i64 (IntKind.wrap .i64 (n28 + (1 : Int)))])
     (T.loads a2 [.slice 40, .int .u32] <| fun (p29 : Option Addr) (l30 : Nat) (l31 : Nat) (n32 : Int) =>
     T.call Try.prog 15 [.agg #[.slice p29 l30 l31, .int .u32 n32], .slice pp00 ll00 cc00] false [(true, [.slice 40, .int .u32])] <| fun (p33 : Option Addr) (l34 : Nat) (l35 : Nat) (n36 : Int) =>
     T.call Try.prog 14 [.pointer (some a21), .slice p33 l34 l35] true [] <| T.loads a2 [.slice 40, .int .u32] <| fun (p37 : Option Addr) (l38 : Nat) (l39 : Nat) (n40 : Int) =>
     T.call Try.prog 15 [.agg #[.slice p37 l38 l39, .int .u32 n40], .slice none 0 0] false [(true, [.slice 40, .int .u32])] <| fun (p41 : Option Addr) (l42 : Nat) (l43 : Nat) (n44 : Int) =>
     T.call Try.prog 14 [.pointer (some a21), .slice p41 l42 l43] true [] <| T.again 0 [.int .i64 (IntKind.wrap .i64 (n22 + (1 : Int)))]))
    (T.call Try.prog 16 [.pointer (some a21), .func (Fn.func 17) #[] #[]] false [(false, [.bool])] <| fun (b23 : Bool) =>
    cond b23
     (T.call Try.prog 18 [.slice pp00 ll00 cc00, .slice p15 l16 l17] false [(false, [.bool])] <| fun (b24 : Bool) =>
     cond b24
      (T.call Try.prog 8 [] false [(false, [.bool])] <| fun (b25 : Bool) =>
      T.ret (.bool b25))
      (T.ret (.bool false)))
     (T.ret (.bool false)))))
theorem t_spandrellaw11_EquKept_eq (pp00 : Option Addr) (ll00 cc00 : Nat) (pp10 : Option Addr) (ll10 cc10 : Nat) (n1_1 : Int) : xfun Try.prog [] Try.f4 [.slice pp00 ll00 cc00, .agg #[.slice pp10 ll10 cc10, .int .u32 n1_1]] = t_spandrellaw11_EquKept pp00 ll00 cc00 pp10 ll10 cc10 n1_1 := by kernel_rfl

/-- The tree of 5. -/
def t_spandrellaw11_EquNumbers  : T :=
 T.call Try.prog 9 [.slice none 0 0] true [(false, [.slice 38]), (false, [.int .i64]), (false, [.int .i64])] <| fun (p1 : Option Addr) (l2 : Nat) (l3 : Nat) (n4 : Int) (n5 : Int) =>
 T.call Try.prog 19 [.string ⟨#[97]⟩, .string ⟨#[98]⟩, .int .u32 (1 : Int), .int .u32 (0 : Int)] false [(true, [.string, .slice 40, .int .u32])] <| fun (s6 : ByteArray) (p7 : Option Addr) (l8 : Nat) (l9 : Nat) (n10 : Int) =>
 T.new [.slice none 0 0, .int .u32 (0 : Int)] 36 <| fun (a11 : Addr) =>
 T.stores a11 [.slice p7 l8 l9, .int .u32 n10] <|
 T.call Try.prog 19 [.string ⟨#[120]⟩, .string ⟨#[97]⟩, .int .u32 (1 : Int), .int .u32 (0 : Int)] false [(true, [.string, .slice 40, .int .u32])] <| fun (s12 : ByteArray) (p13 : Option Addr) (l14 : Nat) (l15 : Nat) (n16 : Int) =>
 T.call Try.prog 19 [.string ⟨#[98]⟩, .string ⟨#[97]⟩, .int .u32 (1 : Int), .int .u32 (0 : Int)] false [(true, [.string, .slice 40, .int .u32])] <| fun (s17 : ByteArray) (p18 : Option Addr) (l19 : Nat) (l20 : Nat) (n21 : Int) =>
 T.call Try.prog 19 [.string ⟨#[97]⟩, .string ⟨#[98]⟩, .int .u32 (1 : Int), .int .u32 (0 : Int)] false [(true, [.string, .slice 40, .int .u32])] <| fun (s22 : ByteArray) (p23 : Option Addr) (l24 : Nat) (l25 : Nat) (n26 : Int) =>
 T.sem Try.prog (Instr.buildSlice 22 3 #[(0, .agg #[.string s12, .slice p13 l14 l15, .int .u32 n16]), (1, .agg #[.string s17, .slice p18 l19 l20, .int .u32 n21]), (2, .agg #[.string s22, .slice p23 l24 l25, .int .u32 n26])]) false [(false, [.slice 0])] <| fun (p27 : Option Addr) (l28 : Nat) (l29 : Nat) =>
 T.call Try.prog 10 [.slice p27 l28 l29] false [(false, [.slice 9])] <| fun (p30 : Option Addr) (l31 : Nat) (l32 : Nat) =>
 T.call Try.prog 19 [.string ⟨#[120]⟩, .string ⟨#[97]⟩, .int .u32 (1 : Int), .int .u32 (0 : Int)] false [(true, [.string, .slice 40, .int .u32])] <| fun (s33 : ByteArray) (p34 : Option Addr) (l35 : Nat) (l36 : Nat) (n37 : Int) =>
 T.call Try.prog 19 [.string ⟨#[97]⟩, .string ⟨#[97]⟩, .int .u32 (1 : Int), .int .u32 (0 : Int)] false [(true, [.string, .slice 40, .int .u32])] <| fun (s38 : ByteArray) (p39 : Option Addr) (l40 : Nat) (l41 : Nat) (n42 : Int) =>
 T.sem Try.prog (Instr.buildSlice 22 2 #[(0, .agg #[.string s33, .slice p34 l35 l36, .int .u32 n37]), (1, .agg #[.string s38, .slice p39 l40 l41, .int .u32 n42])]) false [(false, [.slice 0])] <| fun (p43 : Option Addr) (l44 : Nat) (l45 : Nat) =>
 T.call Try.prog 9 [.slice p43 l44 l45] true [(false, [.slice 38]), (false, [.int .i64]), (false, [.int .i64])] <| fun (p46 : Option Addr) (l47 : Nat) (l48 : Nat) (n49 : Int) (n50 : Int) =>
 cond ((l2 : Int) == (0 : Int))
  (cond (n5 == (0 : Int))
   (T.loads a11 [.slice 40, .int .u32] <| fun (p51 : Option Addr) (l52 : Nat) (l53 : Nat) (n54 : Int) =>
   T.loads a11 [.slice 40, .int .u32] <| fun (p55 : Option Addr) (l56 : Nat) (l57 : Nat) (n58 : Int) =>
   T.call Try.prog 15 [.agg #[.slice p51 l52 l53, .int .u32 n54], .slice none 0 0] false [(true, [.slice 40, .int .u32])] <| fun (p59 : Option Addr) (l60 : Nat) (l61 : Nat) (n62 : Int) =>
   T.stable [(a11, [.slice p55 l56 l57, .int .u32 n58])] <|
   T.call Try.prog 20 [.agg #[.slice p59 l60 l61, .int .u32 n62], .agg #[.slice p55 l56 l57, .int .u32 n58]] false [(false, [.bool])] <| fun (b63 : Bool) =>
   T.stable [(a11, [.slice p51 l52 l53, .int .u32 n54])] <|
   cond b63
    (T.sem Try.prog (Instr.buildSlice 29 2 #[(0, .string ⟨#[97]⟩), (1, .string ⟨#[98]⟩)]) false [(false, [.slice 0])] <| fun (p64 : Option Addr) (l65 : Nat) (l66 : Nat) =>
    T.stable [(a11, [.slice p55 l56 l57, .int .u32 n58]), (a11, [.slice p51 l52 l53, .int .u32 n54])] <|
    T.call Try.prog 21 [.slice p30 l31 l32, .slice p64 l65 l66] false [(false, [.bool])] <| fun (b67 : Bool) =>
    T.stable [(a11, [.slice p55 l56 l57, .int .u32 n58]), (a11, [.slice p51 l52 l53, .int .u32 n54])] <|
    cond b67
     (cond (n49 == (1 : Int))
      (cond (n50 == (24 : Int))
       (T.call Try.prog 8 [] false [(false, [.bool])] <| fun (b68 : Bool) =>
       T.stable [(a11, [.slice p55 l56 l57, .int .u32 n58]), (a11, [.slice p51 l52 l53, .int .u32 n54])] <|
       T.ret (.bool b68))
       (T.ret (.bool false)))
      (T.ret (.bool false)))
     (T.ret (.bool false)))
    (T.ret (.bool false)))
   (T.ret (.bool false)))
  (T.ret (.bool false))
theorem t_spandrellaw11_EquNumbers_eq  : xfun Try.prog [] Try.f5 [] = t_spandrellaw11_EquNumbers  := by kernel_rfl

end Go.Sx
