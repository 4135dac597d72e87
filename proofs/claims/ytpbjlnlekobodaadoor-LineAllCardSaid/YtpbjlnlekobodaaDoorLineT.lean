/- The trees of package line and of the document's parser, each checked by the kernel against the code. No condition. -/
import Derived.Test.YtpbjlnlekobodaaDoorSxF
import Derived.Test.YtpbjlnlekobodaaDoorProg
import Derived.KernelRfl
set_option linter.unusedVariables false
set_option linter.unusedSimpArgs false
set_option linter.deprecated false
set_option maxRecDepth 100000
namespace Go.Sx
open Go.Proofs
/-- The tree of 34. -/
def t_line_Parse (s0 : ByteArray) : T :=
 T.new [.string ⟨#[]⟩, .string ⟨#[]⟩, .slice none 0 0] 48 <| fun (a1 : Addr) =>
 T.call Tryd.prog 21 [.string s0] true [(false, [.slice 35]), (false, [.int .i64]), (false, [.int .i64])] <| fun (p2 : Option Addr) (l3 : Nat) (l4 : Nat) (n5 : Int) (n6 : Int) =>
 cond (n6 != (0 : Int))
  (T.stores a1 [.string ⟨#[]⟩, .string ⟨#[]⟩, .slice none 0 0] <|
  T.loads a1 [.string, .string, .slice 23] <| fun (s7 : ByteArray) (s8 : ByteArray) (p9 : Option Addr) (l10 : Nat) (l11 : Nat) =>
  T.ret (.tuple #[.agg #[.string s7, .string s8, .slice p9 l10 l11], .int .i64 n5, .int .i64 n6]))
  (T.new [.string ⟨#[]⟩, .string ⟨#[]⟩, .slice none 0 0] 48 <| fun (a7 : Addr) =>
  T.join [(false, [.slice 0])]
   (cond (decide ((l3 : Int) > (1 : Int)))
    (T.need (((0 : Int) ≤ (0 : Int)) ∧ ((0 : Int) < (l3 : Int))) <|
    T.osome p2 <| fun (a8 : Addr) =>
    T.loads a8 [.int .i64] <| fun (n9 : Int) =>
    cond (n9 == (1 : Int))
     (T.need (((0 : Int) ≤ (1 : Int)) ∧ ((1 : Int) < (l3 : Int))) <|
     T.osome p2 <| fun (a10 : Addr) =>
     T.loads (a10.add 4) [.int .i64, .string, .int .u32, .int .i64] <| fun (n11 : Int) (s12 : ByteArray) (n13 : Int) (n14 : Int) =>
     T.call Tryd.prog 72 [.agg #[.int .i64 n11, .string s12, .int .u32 n13, .int .i64 n14], .string ⟨#[58]⟩] false [(false, [.bool])] <| fun (b15 : Bool) =>
     cond b15
      (T.need (((0 : Int) ≤ (0 : Int)) ∧ ((0 : Int) < (l3 : Int))) <|
      T.osome p2 <| fun (a16 : Addr) =>
      T.loads (a16.add 1) [.string] <| fun (s17 : ByteArray) =>
      T.stores a7 [.string s17] <|
      T.need (((0 : Int) ≤ (2 : Int)) ∧ (((2 : Int) ≤ (l3 : Int)) ∧ ((l3 : Int) ≤ (l4 : Int)))) <|
      T.again 0 [.slice (if (l4 = 2) then p2 else (Option.map (fun a => Addr.add a 8) p2)) ((Int.toNat (l3 : Int)) - 2) (l4 - 2)])
      (T.again 0 [.slice p2 l3 l4]))
     (T.again 0 [.slice p2 l3 l4]))
    (T.again 0 [.slice p2 l3 l4])) <| fun (p8 : Option Addr) (l9 : Nat) (l10 : Nat) =>
  cond ((l9 : Int) == (0 : Int))
   (T.loads a7 [.string, .string, .slice 23] <| fun (s11 : ByteArray) (s12 : ByteArray) (p13 : Option Addr) (l14 : Nat) (l15 : Nat) =>
   T.stores a1 [.string s11, .string s12, .slice p13 l14 l15] <|
   T.loads a1 [.string, .string, .slice 23] <| fun (s16 : ByteArray) (s17 : ByteArray) (p18 : Option Addr) (l19 : Nat) (l20 : Nat) =>
   T.ret (.tuple #[.agg #[.string s16, .string s17, .slice p18 l19 l20], .int .i64 (0 : Int), .int .i64 (0 : Int)]))
   (T.need (((0 : Int) ≤ (0 : Int)) ∧ ((0 : Int) < (l9 : Int))) <|
   T.osome p8 <| fun (a11 : Addr) =>
   T.loads a11 [.int .i64] <| fun (n12 : Int) =>
   cond (n12 != (1 : Int))
    (T.need (((0 : Int) ≤ (0 : Int)) ∧ ((0 : Int) < (l9 : Int))) <|
    T.osome p8 <| fun (a13 : Addr) =>
    T.loads (a13.add 3) [.int .i64] <| fun (n14 : Int) =>
    T.stores a1 [.string ⟨#[]⟩, .string ⟨#[]⟩, .slice none 0 0] <|
    T.stable [((a13.add 3), [.int .i64 n14])] <|
    T.loads a1 [.string, .string, .slice 23] <| fun (s15 : ByteArray) (s16 : ByteArray) (p17 : Option Addr) (l18 : Nat) (l19 : Nat) =>
    T.ret (.tuple #[.agg #[.string s15, .string s16, .slice p17 l18 l19], .int .i64 n14, .int .i64 (20 : Int)]))
    (T.need (((0 : Int) ≤ (0 : Int)) ∧ ((0 : Int) < (l9 : Int))) <|
    T.osome p8 <| fun (a13 : Addr) =>
    T.loads (a13.add 1) [.string] <| fun (s14 : ByteArray) =>
    T.stores (a7.add 1) [.string s14] <|
    T.need (((0 : Int) ≤ (1 : Int)) ∧ (((1 : Int) ≤ (l9 : Int)) ∧ ((l9 : Int) ≤ (l10 : Int)))) <|
    T.call Tryd.prog 73 [.string s0, .slice (if (l10 = 1) then p8 else (Option.map (fun a => Addr.add a 4) p8)) ((Int.toNat (l9 : Int)) - 1) (l10 - 1)] true [(false, [.slice 23]), (false, [.int .i64]), (false, [.int .i64])] <| fun (p15 : Option Addr) (l16 : Nat) (l17 : Nat) (n18 : Int) (n19 : Int) =>
    cond (n19 != (0 : Int))
     (T.stores a1 [.string ⟨#[]⟩, .string ⟨#[]⟩, .slice none 0 0] <|
     T.loads a1 [.string, .string, .slice 23] <| fun (s20 : ByteArray) (s21 : ByteArray) (p22 : Option Addr) (l23 : Nat) (l24 : Nat) =>
     T.ret (.tuple #[.agg #[.string s20, .string s21, .slice p22 l23 l24], .int .i64 n18, .int .i64 n19]))
     (T.stores (a7.add 2) [.slice p15 l16 l17] <|
     T.loads a7 [.string, .string, .slice 23] <| fun (s20 : ByteArray) (s21 : ByteArray) (p22 : Option Addr) (l23 : Nat) (l24 : Nat) =>
     T.stores a1 [.string s20, .string s21, .slice p22 l23 l24] <|
     T.loads a1 [.string, .string, .slice 23] <| fun (s25 : ByteArray) (s26 : ByteArray) (p27 : Option Addr) (l28 : Nat) (l29 : Nat) =>
     T.ret (.tuple #[.agg #[.string s25, .string s26, .slice p27 l28 l29], .int .i64 (0 : Int), .int .i64 (0 : Int)])))))
theorem t_line_Parse_eq (s0 : ByteArray) : xfun Tryd.prog [1008] Tryd.f34 [.string s0] = t_line_Parse s0 := by kernel_rfl

/-- The tree of 35. -/
def t_spandrelref3_Parse (s0 : ByteArray) : T :=
 T.new [.string ⟨#[]⟩, .string ⟨#[]⟩, .slice none 0 0] 53 <| fun (a1 : Addr) =>
 T.call Tryd.prog 22 [.string s0] true [(false, [.slice 105]), (false, [.int .i64]), (false, [.int .i64])] <| fun (p2 : Option Addr) (l3 : Nat) (l4 : Nat) (n5 : Int) (n6 : Int) =>
 cond (n6 != (0 : Int))
  (T.stores a1 [.string ⟨#[]⟩, .string ⟨#[]⟩, .slice none 0 0] <|
  T.loads a1 [.string, .string, .slice 27] <| fun (s7 : ByteArray) (s8 : ByteArray) (p9 : Option Addr) (l10 : Nat) (l11 : Nat) =>
  T.ret (.tuple #[.agg #[.string s7, .string s8, .slice p9 l10 l11], .int .i64 n5, .int .i64 n6]))
  (T.new [.string ⟨#[]⟩, .string ⟨#[]⟩, .slice none 0 0] 53 <| fun (a7 : Addr) =>
  T.join [(false, [.int .i64])]
   (cond (decide ((l3 : Int) ≥ (2 : Int)))
    (T.need (((0 : Int) ≤ (0 : Int)) ∧ ((0 : Int) < (l3 : Int))) <|
    T.osome p2 <| fun (a8 : Addr) =>
    T.loads a8 [.int .i64] <| fun (n9 : Int) =>
    cond (n9 == (1 : Int))
     (T.need (((0 : Int) ≤ (1 : Int)) ∧ ((1 : Int) < (l3 : Int))) <|
     T.osome p2 <| fun (a10 : Addr) =>
     T.loads (a10.add 4) [.int .i64, .string, .int .u32, .int .i64] <| fun (n11 : Int) (s12 : ByteArray) (n13 : Int) (n14 : Int) =>
     T.call Tryd.prog 74 [.agg #[.int .i64 n11, .string s12, .int .u32 n13, .int .i64 n14], .string ⟨#[58]⟩] false [(false, [.bool])] <| fun (b15 : Bool) =>
     cond b15
      (T.need (((0 : Int) ≤ (0 : Int)) ∧ ((0 : Int) < (l3 : Int))) <|
      T.osome p2 <| fun (a16 : Addr) =>
      T.loads (a16.add 1) [.string] <| fun (s17 : ByteArray) =>
      T.stores a7 [.string s17] <|
      T.again 0 [.int .i64 (2 : Int)])
      (T.again 0 [.int .i64 (0 : Int)]))
     (T.again 0 [.int .i64 (0 : Int)]))
    (T.again 0 [.int .i64 (0 : Int)])) <| fun (n8 : Int) =>
  cond (n8 == (l3 : Int))
   (T.loads a7 [.string, .string, .slice 27] <| fun (s9 : ByteArray) (s10 : ByteArray) (p11 : Option Addr) (l12 : Nat) (l13 : Nat) =>
   T.stores a1 [.string s9, .string s10, .slice p11 l12 l13] <|
   T.loads a1 [.string, .string, .slice 27] <| fun (s14 : ByteArray) (s15 : ByteArray) (p16 : Option Addr) (l17 : Nat) (l18 : Nat) =>
   T.ret (.tuple #[.agg #[.string s14, .string s15, .slice p16 l17 l18], .int .i64 (0 : Int), .int .i64 (0 : Int)]))
   (T.need (((0 : Int) ≤ n8) ∧ (n8 < (l3 : Int))) <|
   T.osome p2 <| fun (a9 : Addr) =>
   T.loads (a9.add ((Int.toNat n8) * 4)) [.int .i64] <| fun (n10 : Int) =>
   cond (n10 != (1 : Int))
    (T.need (((0 : Int) ≤ n8) ∧ (n8 < (l3 : Int))) <|
    T.osome p2 <| fun (a11 : Addr) =>
    T.loads ((a11.add ((Int.toNat n8) * 4)).add 3) [.int .i64] <| fun (n12 : Int) =>
    T.stores a1 [.string ⟨#[]⟩, .string ⟨#[]⟩, .slice none 0 0] <|
    T.stable [(((a11.add ((Int.toNat n8) * 4)).add 3), [.int .i64 n12])] <|
    T.loads a1 [.string, .string, .slice 27] <| fun (s13 : ByteArray) (s14 : ByteArray) (p15 : Option Addr) (l16 : Nat) (l17 : Nat) =>
    T.ret (.tuple #[.agg #[.string s13, .string s14, .slice p15 l16 l17], .int .i64 n12, .int .i64 (20 : Int)]))
    (T.need (((0 : Int) ≤ n8) ∧ (n8 < (l3 : Int))) <|
    T.osome p2 <| fun (a11 : Addr) =>
    T.loads ((a11.add ((Int.toNat n8) * 4)).add 1) [.string] <| fun (s12 : ByteArray) =>
    T.stores (a7.add 1) [.string s12] <|
    cond ((IntKind.wrap .i64 (n8 + (1 : Int))) == (l3 : Int))
     (T.loads a7 [.string, .string, .slice 27] <| fun (s13 : ByteArray) (s14 : ByteArray) (p15 : Option Addr) (l16 : Nat) (l17 : Nat) =>
     T.stores a1 [.string s13, .string s14, .slice p15 l16 l17] <|
     T.loads a1 [.string, .string, .slice 27] <| fun (s18 : ByteArray) (s19 : ByteArray) (p20 : Option Addr) (l21 : Nat) (l22 : Nat) =>
     T.ret (.tuple #[.agg #[.string s18, .string s19, .slice p20 l21 l22], .int .i64 (0 : Int), .int .i64 (0 : Int)]))
     (T.loop [(false, [.int .i64]), (false, [.int .i64]), (false, [.int .i64]), (false, [.slice 0])] [.int .i64 (0 : Int), .int .i64 (0 : Int), .int .i64 (IntKind.wrap .i64 (n8 + (1 : Int))), .slice none 0 0] <| fun (n13 : Int) (n14 : Int) (n15 : Int) (p16 : Option Addr) (l17 : Nat) (l18 : Nat) =>
     cond (decide (n15 < (l3 : Int)))
      (T.need (((0 : Int) ≤ n15) ∧ (n15 < (l3 : Int))) <|
      T.osome p2 <| fun (a19 : Addr) =>
      T.loads (a19.add ((Int.toNat n15) * 4)) [.int .i64, .string, .int .u32, .int .i64] <| fun (n20 : Int) (s21 : ByteArray) (n22 : Int) (n23 : Int) =>
      T.new [.int .i64 (0 : Int), .string ⟨#[]⟩, .int .u32 (0 : Int), .int .i64 (0 : Int)] 105 <| fun (a24 : Addr) =>
      T.stores a24 [.int .i64 n20, .string s21, .int .u32 n22, .int .i64 n23] <|
      T.join [(false, [.bool])]
       (T.loads a24 [.int .i64, .string, .int .u32, .int .i64] <| fun (n25 : Int) (s26 : ByteArray) (n27 : Int) (n28 : Int) =>
       T.call Tryd.prog 74 [.agg #[.int .i64 n25, .string s26, .int .u32 n27, .int .i64 n28], .string ⟨#[58]⟩] false [(false, [.bool])] <| fun (b29 : Bool) =>
       cond b29
        (T.again 1 [.bool true])
        (T.loads a24 [.int .i64, .string, .int .u32, .int .i64] <| fun (n30 : Int) (s31 : ByteArray) (n32 : Int) (n33 : Int) =>
        T.call Tryd.prog 74 [.agg #[.int .i64 n30, .string s31, .int .u32 n32, .int .i64 n33], .string ⟨#[44]⟩] false [(false, [.bool])] <| fun (b34 : Bool) =>
        cond b34
         (T.again 1 [.bool ((l17 : Int) == (0 : Int))])
         (T.again 1 [.bool false]))) <| fun (b25 : Bool) =>
      cond b25
       (T.loads (a24.add 3) [.int .i64] <| fun (n26 : Int) =>
       T.stores a1 [.string ⟨#[]⟩, .string ⟨#[]⟩, .slice none 0 0] <|
       T.stable [((a24.add 3), [.int .i64 n26])] <|
       T.loads a1 [.string, .string, .slice 27] <| fun (s27 : ByteArray) (s28 : ByteArray) (p29 : Option Addr) (l30 : Nat) (l31 : Nat) =>
       T.ret (.tuple #[.agg #[.string s27, .string s28, .slice p29 l30 l31], .int .i64 n26, .int .i64 (20 : Int)]))
       (T.loads a24 [.int .i64, .string, .int .u32, .int .i64] <| fun (n26 : Int) (s27 : ByteArray) (n28 : Int) (n29 : Int) =>
       T.call Tryd.prog 74 [.agg #[.int .i64 n26, .string s27, .int .u32 n28, .int .i64 n29], .string ⟨#[44]⟩] false [(false, [.bool])] <| fun (b30 : Bool) =>
       cond b30
        (T.loads (a7.add 2) [.slice 27] <| fun (p31 : Option Addr) (l32 : Nat) (l33 : Nat) =>
        T.sem Tryd.prog (Instr.buildSlice 51 1 #[(0, .slice p16 l17 l18)]) false [(false, [.slice 0])] <| fun (p34 : Option Addr) (l35 : Nat) (l36 : Nat) =>
        T.sem Tryd.prog (Builtin.append_ #[51, 51] 51 #[.slice p31 l32 l33, .slice p34 l35 l36]) false [(false, [.slice 0])] <| fun (p37 : Option Addr) (l38 : Nat) (l39 : Nat) =>
        T.stores (a7.add 2) [.slice p37 l38 l39] <|
        T.again 0 [.int .i64 n13, .int .i64 n14, .int .i64 (IntKind.wrap .i64 (n15 + (1 : Int))), .slice none 0 0])
        (T.loads a24 [.int .i64, .string, .int .u32, .int .i64] <| fun (n31 : Int) (s32 : ByteArray) (n33 : Int) (n34 : Int) =>
        T.sem Tryd.prog (Instr.buildSlice 27 1 #[(0, .agg #[.int .i64 n31, .string s32, .int .u32 n33, .int .i64 n34])]) false [(false, [.slice 0])] <| fun (p35 : Option Addr) (l36 : Nat) (l37 : Nat) =>
        T.sem Tryd.prog (Builtin.append_ #[27, 27] 27 #[.slice p16 l17 l18, .slice p35 l36 l37]) false [(false, [.slice 0])] <| fun (p38 : Option Addr) (l39 : Nat) (l40 : Nat) =>
        T.again 0 [.int .i64 n13, .int .i64 n14, .int .i64 (IntKind.wrap .i64 (n15 + (1 : Int))), .slice p38 l39 l40])))
      (cond ((l17 : Int) == (0 : Int))
       (T.stores a1 [.string ⟨#[]⟩, .string ⟨#[]⟩, .slice none 0 0] <|
       T.loads a1 [.string, .string, .slice 27] <| fun (s19 : ByteArray) (s20 : ByteArray) (p21 : Option Addr) (l22 : Nat) (l23 : Nat) =>
       T.ret (.tuple #[.agg #[.string s19, .string s20, .slice p21 l22 l23], .int .i64 (s0.size : Int), .int .i64 (20 : Int)]))
       (T.loads (a7.add 2) [.slice 27] <| fun (p19 : Option Addr) (l20 : Nat) (l21 : Nat) =>
       T.sem Tryd.prog (Instr.buildSlice 51 1 #[(0, .slice p16 l17 l18)]) false [(false, [.slice 0])] <| fun (p22 : Option Addr) (l23 : Nat) (l24 : Nat) =>
       T.sem Tryd.prog (Builtin.append_ #[51, 51] 51 #[.slice p19 l20 l21, .slice p22 l23 l24]) false [(false, [.slice 0])] <| fun (p25 : Option Addr) (l26 : Nat) (l27 : Nat) =>
       T.stores (a7.add 2) [.slice p25 l26 l27] <|
       T.loads a7 [.string, .string, .slice 27] <| fun (s28 : ByteArray) (s29 : ByteArray) (p30 : Option Addr) (l31 : Nat) (l32 : Nat) =>
       T.stores a1 [.string s28, .string s29, .slice p30 l31 l32] <|
       T.loads a1 [.string, .string, .slice 27] <| fun (s33 : ByteArray) (s34 : ByteArray) (p35 : Option Addr) (l36 : Nat) (l37 : Nat) =>
       T.ret (.tuple #[.agg #[.string s33, .string s34, .slice p35 l36 l37], .int .i64 (0 : Int), .int .i64 (0 : Int)])))))))
theorem t_spandrelref3_Parse_eq (s0 : ByteArray) : xfun Tryd.prog [1009, 20] Tryd.f35 [.string s0] = t_spandrelref3_Parse s0 := by kernel_rfl

/-- The tree of 73. -/
def t_line_arguments (s0 : ByteArray) (pp10 : Option Addr) (ll10 cc10 : Nat) : T :=
 cond ((ll10 : Int) == (0 : Int))
  (T.ret (.tuple #[.slice none 0 0, .int .i64 (0 : Int), .int .i64 (0 : Int)]))
  (T.sem Tryd.prog (Instr.buildSlice 38 1 #[(0, .slice none 0 0)]) false [(false, [.slice 0])] <| fun (p2 : Option Addr) (l3 : Nat) (l4 : Nat) =>
  T.loop [(false, [.slice 0]), (false, [.int .i64]), (false, [.int .i64]), (false, [.slice 0]), (false, [.int .i64])] [.slice none 0 0, .int .i64 (0 : Int), .int .i64 (0 : Int), .slice p2 l3 l4, .int .i64 (0 : Int)] <| fun (p5 : Option Addr) (l6 : Nat) (l7 : Nat) (n8 : Int) (n9 : Int) (p10 : Option Addr) (l11 : Nat) (l12 : Nat) (n13 : Int) =>
  cond (decide (n13 < (ll10 : Int)))
   (T.need (((0 : Int) ≤ n13) ∧ (n13 < (ll10 : Int))) <|
   T.osome pp10 <| fun (a14 : Addr) =>
   T.loads (a14.add ((Int.toNat n13) * 4)) [.int .i64, .string, .int .u32, .int .i64] <| fun (n15 : Int) (s16 : ByteArray) (n17 : Int) (n18 : Int) =>
   T.new [.int .i64 (0 : Int), .string ⟨#[]⟩, .int .u32 (0 : Int), .int .i64 (0 : Int)] 35 <| fun (a19 : Addr) =>
   T.stores a19 [.int .i64 n15, .string s16, .int .u32 n17, .int .i64 n18] <|
   T.join [(false, [.bool])]
    (T.loads a19 [.int .i64, .string, .int .u32, .int .i64] <| fun (n20 : Int) (s21 : ByteArray) (n22 : Int) (n23 : Int) =>
    T.call Tryd.prog 72 [.agg #[.int .i64 n20, .string s21, .int .u32 n22, .int .i64 n23], .string ⟨#[58]⟩] false [(false, [.bool])] <| fun (b24 : Bool) =>
    cond b24
     (T.again 1 [.bool true])
     (T.loads a19 [.int .i64, .string, .int .u32, .int .i64] <| fun (n25 : Int) (s26 : ByteArray) (n27 : Int) (n28 : Int) =>
     T.call Tryd.prog 72 [.agg #[.int .i64 n25, .string s26, .int .u32 n27, .int .i64 n28], .string ⟨#[44]⟩] false [(false, [.bool])] <| fun (b29 : Bool) =>
     cond b29
      (T.need (((0 : Int) ≤ (IntKind.wrap .i64 ((l11 : Int) - (1 : Int)))) ∧ ((IntKind.wrap .i64 ((l11 : Int) - (1 : Int))) < (l11 : Int))) <|
      T.osome p10 <| fun (a30 : Addr) =>
      T.loads (a30.add ((Int.toNat (IntKind.wrap .i64 ((l11 : Int) - (1 : Int)))) * 1)) [.slice 35] <| fun (p31 : Option Addr) (l32 : Nat) (l33 : Nat) =>
      T.again 1 [.bool ((l32 : Int) == (0 : Int))])
      (T.again 1 [.bool false]))) <| fun (b20 : Bool) =>
   cond b20
    (T.loads (a19.add 3) [.int .i64] <| fun (n21 : Int) =>
    T.stable [((a19.add 3), [.int .i64 n21])] <|
    T.ret (.tuple #[.slice none 0 0, .int .i64 n21, .int .i64 (20 : Int)]))
    (T.loads a19 [.int .i64, .string, .int .u32, .int .i64] <| fun (n21 : Int) (s22 : ByteArray) (n23 : Int) (n24 : Int) =>
    T.call Tryd.prog 72 [.agg #[.int .i64 n21, .string s22, .int .u32 n23, .int .i64 n24], .string ⟨#[44]⟩] false [(false, [.bool])] <| fun (b25 : Bool) =>
    cond b25
     (T.sem Tryd.prog (Instr.buildSlice 38 1 #[(0, .slice none 0 0)]) false [(false, [.slice 0])] <| fun (p26 : Option Addr) (l27 : Nat) (l28 : Nat) =>
     T.sem Tryd.prog (Builtin.append_ #[38, 38] 38 #[.slice p10 l11 l12, .slice p26 l27 l28]) false [(false, [.slice 0])] <| fun (p29 : Option Addr) (l30 : Nat) (l31 : Nat) =>
     T.again 0 [.slice p5 l6 l7, .int .i64 n8, .int .i64 n9, .slice p29 l30 l31, .int .i64 (IntKind.wrap .i64 (n13 + (1 : Int)))])
     (T.need (((0 : Int) ≤ (IntKind.wrap .i64 ((l11 : Int) - (1 : Int)))) ∧ ((IntKind.wrap .i64 ((l11 : Int) - (1 : Int))) < (l11 : Int))) <|
     T.osome p10 <| fun (a26 : Addr) =>
     T.loads (a26.add ((Int.toNat (IntKind.wrap .i64 ((l11 : Int) - (1 : Int)))) * 1)) [.slice 35] <| fun (p27 : Option Addr) (l28 : Nat) (l29 : Nat) =>
     T.loads a19 [.int .i64, .string, .int .u32, .int .i64] <| fun (n30 : Int) (s31 : ByteArray) (n32 : Int) (n33 : Int) =>
     T.sem Tryd.prog (Instr.buildSlice 23 1 #[(0, .agg #[.int .i64 n30, .string s31, .int .u32 n32, .int .i64 n33])]) false [(false, [.slice 0])] <| fun (p34 : Option Addr) (l35 : Nat) (l36 : Nat) =>
     T.stable [((a26.add ((Int.toNat (IntKind.wrap .i64 ((l11 : Int) - (1 : Int)))) * 1)), [.slice p27 l28 l29])] <|
     T.sem Tryd.prog (Builtin.append_ #[23, 23] 23 #[.slice p27 l28 l29, .slice p34 l35 l36]) false [(false, [.slice 0])] <| fun (p37 : Option Addr) (l38 : Nat) (l39 : Nat) =>
     T.stable [(a19, [.int .i64 n30, .string s31, .int .u32 n32, .int .i64 n33])] <|
     T.need (((0 : Int) ≤ (IntKind.wrap .i64 ((l11 : Int) - (1 : Int)))) ∧ ((IntKind.wrap .i64 ((l11 : Int) - (1 : Int))) < (l11 : Int))) <|
     T.osome p10 <| fun (a40 : Addr) =>
     T.stores (a40.add ((Int.toNat (IntKind.wrap .i64 ((l11 : Int) - (1 : Int)))) * 1)) [.slice p37 l38 l39] <|
     T.again 0 [.slice p5 l6 l7, .int .i64 n8, .int .i64 n9, .slice p10 l11 l12, .int .i64 (IntKind.wrap .i64 (n13 + (1 : Int)))])))
   (T.need (((0 : Int) ≤ (IntKind.wrap .i64 ((l11 : Int) - (1 : Int)))) ∧ ((IntKind.wrap .i64 ((l11 : Int) - (1 : Int))) < (l11 : Int))) <|
   T.osome p10 <| fun (a14 : Addr) =>
   T.loads (a14.add ((Int.toNat (IntKind.wrap .i64 ((l11 : Int) - (1 : Int)))) * 1)) [.slice 35] <| fun (p15 : Option Addr) (l16 : Nat) (l17 : Nat) =>
   cond ((l16 : Int) == (0 : Int))
    (T.ret (.tuple #[.slice none 0 0, .int .i64 (s0.size : Int), .int .i64 (20 : Int)]))
    (T.ret (.tuple #[.slice p10 l11 l12, .int .i64 (0 : Int), .int .i64 (0 : Int)]))))
theorem t_line_arguments_eq (s0 : ByteArray) (pp10 : Option Addr) (ll10 cc10 : Nat) : xfun Tryd.prog [9] Tryd.f73 [.string s0, .slice pp10 ll10 cc10] = t_line_arguments s0 pp10 ll10 cc10 := by kernel_rfl

/-- The tree of 72. -/
def t_line_is (n0 : Int) (s1_0 : ByteArray) (n2_0 : Int) (n3_0 : Int) (s1 : ByteArray) : T :=
 T.new [.int .i64 n0, .string s1_0, .int .u32 n2_0, .int .i64 n3_0] 35 <| fun (a2 : Addr) =>
 T.loads a2 [.int .i64] <| fun (n3 : Int) =>
 cond (n3 == (3 : Int))
  (T.loads (a2.add 1) [.string] <| fun (s4 : ByteArray) =>
  T.ret (.bool ((ByteArray.toList s4) == (ByteArray.toList s1))))
  (T.ret (.bool false))
theorem t_line_is_eq (n0 : Int) (s1_0 : ByteArray) (n2_0 : Int) (n3_0 : Int) (s1 : ByteArray) : xfun Tryd.prog [] Tryd.f72 [.agg #[.int .i64 n0, .string s1_0, .int .u32 n2_0, .int .i64 n3_0], .string s1] = t_line_is n0 s1_0 n2_0 n3_0 s1 := by kernel_rfl

/-- The tree of 74. -/
def t_spandrelref3_sign (n0 : Int) (s1_0 : ByteArray) (n2_0 : Int) (n3_0 : Int) (s1 : ByteArray) : T :=
 T.new [.int .i64 n0, .string s1_0, .int .u32 n2_0, .int .i64 n3_0] 105 <| fun (a2 : Addr) =>
 T.loads a2 [.int .i64] <| fun (n3 : Int) =>
 cond (n3 == (3 : Int))
  (T.loads (a2.add 1) [.string] <| fun (s4 : ByteArray) =>
  T.ret (.bool ((ByteArray.toList s4) == (ByteArray.toList s1))))
  (T.ret (.bool false))
theorem t_spandrelref3_sign_eq (n0 : Int) (s1_0 : ByteArray) (n2_0 : Int) (n3_0 : Int) (s1 : ByteArray) : xfun Tryd.prog [] Tryd.f74 [.agg #[.int .i64 n0, .string s1_0, .int .u32 n2_0, .int .i64 n3_0], .string s1] = t_spandrelref3_sign n0 s1_0 n2_0 n3_0 s1 := by kernel_rfl

/-- The tree of 38. -/
def t_spandrellaw3_mark (n0 : Int) (n1 : Int) : T :=
 T.new [.int .i64 (0 : Int), .string ⟨#[]⟩, .int .u32 (0 : Int), .int .i64 (0 : Int)] 35 <| fun (a2 : Addr) =>
 T.stores a2 [.int .i64 (IntKind.wrap .i64 ((-100 : Int) - n0)), .string ⟨#[]⟩, .int .u32 (0 : Int), .int .i64 (IntKind.wrap .i64 ((0 : Int) - n1))] <|
 T.loads a2 [.int .i64, .string, .int .u32, .int .i64] <| fun (n3 : Int) (s4 : ByteArray) (n5 : Int) (n6 : Int) =>
 T.ret (.agg #[.int .i64 n3, .string s4, .int .u32 n5, .int .i64 n6])
theorem t_spandrellaw3_mark_eq (n0 : Int) (n1 : Int) : xfun Tryd.prog [] Tryd.f38 [.int .i64 n0, .int .i64 n1] = t_spandrellaw3_mark n0 n1 := by kernel_rfl

end Go.Sx
