/- Trees of functions, each checked by the kernel against the code. No condition. -/
import Derived.Test.YtnjohginlglonaaGreatDoorSxF
import Derived.Test.YtnjohginlglonaaGreatDoorProg
import Derived.KernelRfl
set_option linter.unusedVariables false
set_option linter.unusedSimpArgs false
set_option linter.deprecated false
set_option maxRecDepth 100000
namespace Go.Sx
open Go.Proofs
/-- The tree of 45. -/
def t_spandrelkeep_SameItem (n0 : Int) (s1_0 : ByteArray) (n2_0 : Int) (n3_0 : Int) (n4_0 : Int) (n5_0 : Int) (n6_0 : Int) (pp07 : Option Addr) (ll07 cc07 : Nat) (n8_0 : Int) (n9_0 : Int) (n1 : Int) (s1_1 : ByteArray) (n2_1 : Int) (n3_1 : Int) (n4_1 : Int) (n5_1 : Int) (n6_1 : Int) (pp17 : Option Addr) (ll17 cc17 : Nat) (n8_1 : Int) (n9_1 : Int) : T :=
 T.new [.int .i64 n0, .string s1_0, .int .i64 n2_0, .int .i64 n3_0, .int .i64 n4_0, .int .i32 n5_0, .int .i64 n6_0, .slice pp07 ll07 cc07, .int .u32 n8_0, .int .i64 n9_0] 102 <| fun (a2 : Addr) =>
 T.new [.int .i64 n1, .string s1_1, .int .i64 n2_1, .int .i64 n3_1, .int .i64 n4_1, .int .i32 n5_1, .int .i64 n6_1, .slice pp17 ll17 cc17, .int .u32 n8_1, .int .i64 n9_1] 102 <| fun (a3 : Addr) =>
 T.loads a2 [.int .i64] <| fun (n4 : Int) =>
 T.loads a3 [.int .i64] <| fun (n5 : Int) =>
 cond (n4 == n5)
  (T.loads (a2.add 1) [.string] <| fun (s6 : ByteArray) =>
  T.loads (a3.add 1) [.string] <| fun (s7 : ByteArray) =>
  cond ((ByteArray.toList s6) == (ByteArray.toList s7))
   (T.loads (a2.add 2) [.int .i64, .int .i64, .int .i64, .int .i32, .int .i64] <| fun (n8 : Int) (n9 : Int) (n10 : Int) (n11 : Int) (n12 : Int) =>
   T.loads (a3.add 2) [.int .i64, .int .i64, .int .i64, .int .i32, .int .i64] <| fun (n13 : Int) (n14 : Int) (n15 : Int) (n16 : Int) (n17 : Int) =>
   T.sem Tryz.prog (Sx.cmpS (BinOp.eql) 100 (Operand.tmp 19) (Operand.tmp 21) (.agg #[.int .i64 n8, .int .i64 n9, .int .i64 n10, .int .i32 n11, .int .i64 n12]) (.agg #[.int .i64 n13, .int .i64 n14, .int .i64 n15, .int .i32 n16, .int .i64 n17])) false [(false, [.bool])] <| fun (b18 : Bool) =>
   cond b18
    (T.loads (a2.add 7) [.slice 104, .int .u32] <| fun (p19 : Option Addr) (l20 : Nat) (l21 : Nat) (n22 : Int) =>
    T.loads (a3.add 7) [.slice 104, .int .u32] <| fun (p23 : Option Addr) (l24 : Nat) (l25 : Nat) (n26 : Int) =>
    T.call Tryz.prog 67 [.agg #[.slice p19 l20 l21, .int .u32 n22], .agg #[.slice p23 l24 l25, .int .u32 n26]] false [(false, [.bool])] <| fun (b27 : Bool) =>
    cond b27
     (T.loads (a2.add 9) [.int .i64] <| fun (n28 : Int) =>
     T.loads (a3.add 9) [.int .i64] <| fun (n29 : Int) =>
     T.ret (.bool (n28 == n29)))
     (T.ret (.bool false)))
    (T.ret (.bool false)))
   (T.ret (.bool false)))
  (T.ret (.bool false))
theorem t_spandrelkeep_SameItem_eq (n0 : Int) (s1_0 : ByteArray) (n2_0 : Int) (n3_0 : Int) (n4_0 : Int) (n5_0 : Int) (n6_0 : Int) (pp07 : Option Addr) (ll07 cc07 : Nat) (n8_0 : Int) (n9_0 : Int) (n1 : Int) (s1_1 : ByteArray) (n2_1 : Int) (n3_1 : Int) (n4_1 : Int) (n5_1 : Int) (n6_1 : Int) (pp17 : Option Addr) (ll17 cc17 : Nat) (n8_1 : Int) (n9_1 : Int) : xfun Tryz.prog [] Tryz.f66 [.agg #[.int .i64 n0, .string s1_0, .int .i64 n2_0, .int .i64 n3_0, .int .i64 n4_0, .int .i32 n5_0, .int .i64 n6_0, .slice pp07 ll07 cc07, .int .u32 n8_0, .int .i64 n9_0], .agg #[.int .i64 n1, .string s1_1, .int .i64 n2_1, .int .i64 n3_1, .int .i64 n4_1, .int .i32 n5_1, .int .i64 n6_1, .slice pp17 ll17 cc17, .int .u32 n8_1, .int .i64 n9_1]] = t_spandrelkeep_SameItem n0 s1_0 n2_0 n3_0 n4_0 n5_0 n6_0 pp07 ll07 cc07 n8_0 n9_0 n1 s1_1 n2_1 n3_1 n4_1 n5_1 n6_1 pp17 ll17 cc17 n8_1 n9_1 := by kernel_rfl

/-- The tree of 24. -/
def t_spandrelkeep_SameItems (pp00 : Option Addr) (ll00 cc00 : Nat) (pp10 : Option Addr) (ll10 cc10 : Nat) : T :=
 cond ((ll00 : Int) != (ll10 : Int))
  (T.ret (.bool false))
  (T.loop [(false, [.bool]), (false, [.int .i64])] [.bool false, .int .i64 (0 : Int)] <| fun (b2 : Bool) (n3 : Int) =>
  cond (decide (n3 < (ll00 : Int)))
   (T.need (((0 : Int) ≤ n3) ∧ (n3 < (ll00 : Int))) <|
   T.osome pp00 <| fun (a4 : Addr) =>
   T.loads (a4.add ((Int.toNat n3) * 10)) [.int .i64, .string, .int .i64, .int .i64, .int .i64, .int .i32, .int .i64, .slice 104, .int .u32, .int .i64] <| fun (n5 : Int) (s6 : ByteArray) (n7 : Int) (n8 : Int) (n9 : Int) (n10 : Int) (n11 : Int) (p12 : Option Addr) (l13 : Nat) (l14 : Nat) (n15 : Int) (n16 : Int) =>
   T.need (((0 : Int) ≤ n3) ∧ (n3 < (ll10 : Int))) <|
   T.osome pp10 <| fun (a17 : Addr) =>
   T.loads (a17.add ((Int.toNat n3) * 10)) [.int .i64, .string, .int .i64, .int .i64, .int .i64, .int .i32, .int .i64, .slice 104, .int .u32, .int .i64] <| fun (n18 : Int) (s19 : ByteArray) (n20 : Int) (n21 : Int) (n22 : Int) (n23 : Int) (n24 : Int) (p25 : Option Addr) (l26 : Nat) (l27 : Nat) (n28 : Int) (n29 : Int) =>
   T.call Tryz.prog 66 [.agg #[.int .i64 n5, .string s6, .int .i64 n7, .int .i64 n8, .int .i64 n9, .int .i32 n10, .int .i64 n11, .slice p12 l13 l14, .int .u32 n15, .int .i64 n16], .agg #[.int .i64 n18, .string s19, .int .i64 n20, .int .i64 n21, .int .i64 n22, .int .i32 n23, .int .i64 n24, .slice p25 l26 l27, .int .u32 n28, .int .i64 n29]] false [(false, [.bool])] <| fun (b30 : Bool) =>
   cond (!b30)
    (T.ret (.bool false))
    (T.again 0 [.bool b2, .int .i64 (IntKind.wrap .i64 (n3 + (1 : Int)))]))
   (T.ret (.bool true)))
theorem t_spandrelkeep_SameItems_eq (pp00 : Option Addr) (ll00 cc00 : Nat) (pp10 : Option Addr) (ll10 cc10 : Nat) : xfun Tryz.prog [] Tryz.f31 [.slice pp00 ll00 cc00, .slice pp10 ll10 cc10] = t_spandrelkeep_SameItems pp00 ll00 cc00 pp10 ll10 cc10 := by kernel_rfl

/-- The tree of 25. -/
def t_spandrelkeep_SameEqus (pp00 : Option Addr) (ll00 cc00 : Nat) (pp10 : Option Addr) (ll10 cc10 : Nat) : T :=
 cond ((ll00 : Int) != (ll10 : Int))
  (T.ret (.bool false))
  (T.loop [(false, [.bool]), (false, [.int .i64])] [.bool false, .int .i64 (0 : Int)] <| fun (b2 : Bool) (n3 : Int) =>
  cond (decide (n3 < (ll00 : Int)))
   (T.need (((0 : Int) ≤ n3) ∧ (n3 < (ll00 : Int))) <|
   T.osome pp00 <| fun (a4 : Addr) =>
   T.loads (a4.add ((Int.toNat n3) * 3)) [.string] <| fun (s5 : ByteArray) =>
   T.need (((0 : Int) ≤ n3) ∧ (n3 < (ll10 : Int))) <|
   T.osome pp10 <| fun (a6 : Addr) =>
   T.loads (a6.add ((Int.toNat n3) * 3)) [.string] <| fun (s7 : ByteArray) =>
   cond (!((ByteArray.toList s5) == (ByteArray.toList s7)))
    (T.ret (.bool false))
    (T.need (((0 : Int) ≤ n3) ∧ (n3 < (ll00 : Int))) <|
    T.osome pp00 <| fun (a8 : Addr) =>
    T.loads ((a8.add ((Int.toNat n3) * 3)).add 1) [.slice 104, .int .u32] <| fun (p9 : Option Addr) (l10 : Nat) (l11 : Nat) (n12 : Int) =>
    T.need (((0 : Int) ≤ n3) ∧ (n3 < (ll10 : Int))) <|
    T.osome pp10 <| fun (a13 : Addr) =>
    T.loads ((a13.add ((Int.toNat n3) * 3)).add 1) [.slice 104, .int .u32] <| fun (p14 : Option Addr) (l15 : Nat) (l16 : Nat) (n17 : Int) =>
    T.call Tryz.prog 67 [.agg #[.slice p9 l10 l11, .int .u32 n12], .agg #[.slice p14 l15 l16, .int .u32 n17]] false [(false, [.bool])] <| fun (b18 : Bool) =>
    T.stable [((a6.add ((Int.toNat n3) * 3)), [.string s7]), ((a4.add ((Int.toNat n3) * 3)), [.string s5])] <|
    cond (!b18)
     (T.ret (.bool false))
     (T.again 0 [.bool b2, .int .i64 (IntKind.wrap .i64 (n3 + (1 : Int)))])))
   (T.ret (.bool true)))
theorem t_spandrelkeep_SameEqus_eq (pp00 : Option Addr) (ll00 cc00 : Nat) (pp10 : Option Addr) (ll10 cc10 : Nat) : xfun Tryz.prog [] Tryz.f32 [.slice pp00 ll00 cc00, .slice pp10 ll10 cc10] = t_spandrelkeep_SameEqus pp00 ll00 cc00 pp10 ll10 cc10 := by kernel_rfl

/-- The tree of 26. -/
def t_spandrelbook_Same_string_ (pp00 : Option Addr) (ll00 cc00 : Nat) (pp10 : Option Addr) (ll10 cc10 : Nat) : T :=
 cond ((ll00 : Int) != (ll10 : Int))
  (T.ret (.bool false))
  (T.loop [(false, [.bool]), (false, [.int .i64])] [.bool false, .int .i64 (0 : Int)] <| fun (b2 : Bool) (n3 : Int) =>
  cond (decide (n3 < (ll00 : Int)))
   (T.need (((0 : Int) ≤ n3) ∧ (n3 < (ll00 : Int))) <|
   T.osome pp00 <| fun (a4 : Addr) =>
   T.loads (a4.add ((Int.toNat n3) * 1)) [.string] <| fun (s5 : ByteArray) =>
   T.need (((0 : Int) ≤ n3) ∧ (n3 < (ll10 : Int))) <|
   T.osome pp10 <| fun (a6 : Addr) =>
   T.loads (a6.add ((Int.toNat n3) * 1)) [.string] <| fun (s7 : ByteArray) =>
   cond (!((ByteArray.toList s5) == (ByteArray.toList s7)))
    (T.ret (.bool false))
    (T.again 0 [.bool b2, .int .i64 (IntKind.wrap .i64 (n3 + (1 : Int)))]))
   (T.ret (.bool true)))
theorem t_spandrelbook_Same_string__eq (pp00 : Option Addr) (ll00 cc00 : Nat) (pp10 : Option Addr) (ll10 cc10 : Nat) : xfun Tryz.prog [] Tryz.f33 [.slice pp00 ll00 cc00, .slice pp10 ll10 cc10] = t_spandrelbook_Same_string_ pp00 ll00 cc00 pp10 ll10 cc10 := by kernel_rfl

/-- The tree of 11. -/
def t_spandrelkeep_SameUnit (pp00 : Option Addr) (ll00 cc00 : Nat) (pp01 : Option Addr) (ll01 cc01 : Nat) (pp02 : Option Addr) (ll02 cc02 : Nat) (pp03 : Option Addr) (ll03 cc03 : Nat) (pp10 : Option Addr) (ll10 cc10 : Nat) (pp11 : Option Addr) (ll11 cc11 : Nat) (pp12 : Option Addr) (ll12 cc12 : Nat) (pp13 : Option Addr) (ll13 cc13 : Nat) : T :=
 T.new [.slice pp00 ll00 cc00, .slice pp01 ll01 cc01, .slice pp02 ll02 cc02, .slice pp03 ll03 cc03] 28 <| fun (a2 : Addr) =>
 T.new [.slice pp10 ll10 cc10, .slice pp11 ll11 cc11, .slice pp12 ll12 cc12, .slice pp13 ll13 cc13] 28 <| fun (a3 : Addr) =>
 T.loads a2 [.slice 102] <| fun (p4 : Option Addr) (l5 : Nat) (l6 : Nat) =>
 T.loads a3 [.slice 102] <| fun (p7 : Option Addr) (l8 : Nat) (l9 : Nat) =>
 T.call Tryz.prog 31 [.slice p4 l5 l6, .slice p7 l8 l9] false [(false, [.bool])] <| fun (b10 : Bool) =>
 cond b10
  (T.loads (a2.add 1) [.slice 102] <| fun (p11 : Option Addr) (l12 : Nat) (l13 : Nat) =>
  T.loads (a3.add 1) [.slice 102] <| fun (p14 : Option Addr) (l15 : Nat) (l16 : Nat) =>
  T.call Tryz.prog 31 [.slice p11 l12 l13, .slice p14 l15 l16] false [(false, [.bool])] <| fun (b17 : Bool) =>
  cond b17
   (T.loads (a2.add 2) [.slice 78] <| fun (p18 : Option Addr) (l19 : Nat) (l20 : Nat) =>
   T.loads (a3.add 2) [.slice 78] <| fun (p21 : Option Addr) (l22 : Nat) (l23 : Nat) =>
   T.call Tryz.prog 32 [.slice p18 l19 l20, .slice p21 l22 l23] false [(false, [.bool])] <| fun (b24 : Bool) =>
   cond b24
    (T.loads (a2.add 3) [.slice 9] <| fun (p25 : Option Addr) (l26 : Nat) (l27 : Nat) =>
    T.loads (a3.add 3) [.slice 9] <| fun (p28 : Option Addr) (l29 : Nat) (l30 : Nat) =>
    T.call Tryz.prog 33 [.slice p25 l26 l27, .slice p28 l29 l30] false [(false, [.bool])] <| fun (b31 : Bool) =>
    T.ret (.bool b31))
    (T.ret (.bool false)))
   (T.ret (.bool false)))
  (T.ret (.bool false))
theorem t_spandrelkeep_SameUnit_eq (pp00 : Option Addr) (ll00 cc00 : Nat) (pp01 : Option Addr) (ll01 cc01 : Nat) (pp02 : Option Addr) (ll02 cc02 : Nat) (pp03 : Option Addr) (ll03 cc03 : Nat) (pp10 : Option Addr) (ll10 cc10 : Nat) (pp11 : Option Addr) (ll11 cc11 : Nat) (pp12 : Option Addr) (ll12 cc12 : Nat) (pp13 : Option Addr) (ll13 cc13 : Nat) : xfun Tryz.prog [] Tryz.f9 [.agg #[.slice pp00 ll00 cc00, .slice pp01 ll01 cc01, .slice pp02 ll02 cc02, .slice pp03 ll03 cc03], .agg #[.slice pp10 ll10 cc10, .slice pp11 ll11 cc11, .slice pp12 ll12 cc12, .slice pp13 ll13 cc13]] = t_spandrelkeep_SameUnit pp00 ll00 cc00 pp01 ll01 cc01 pp02 ll02 cc02 pp03 ll03 cc03 pp10 ll10 cc10 pp11 ll11 cc11 pp12 ll12 cc12 pp13 ll13 cc13 := by kernel_rfl

/-- The tree of 12. -/
def t_spandrelbook_Same_byte_ (pp00 : Option Addr) (ll00 cc00 : Nat) (pp10 : Option Addr) (ll10 cc10 : Nat) : T :=
 cond ((ll00 : Int) != (ll10 : Int))
  (T.ret (.bool false))
  (T.loop [(false, [.bool]), (false, [.int .i64])] [.bool false, .int .i64 (0 : Int)] <| fun (b2 : Bool) (n3 : Int) =>
  cond (decide (n3 < (ll00 : Int)))
   (T.need (((0 : Int) ≤ n3) ∧ (n3 < (ll00 : Int))) <|
   T.osome pp00 <| fun (a4 : Addr) =>
   T.loads (a4.add ((Int.toNat n3) * 1)) [.int .u8] <| fun (n5 : Int) =>
   T.need (((0 : Int) ≤ n3) ∧ (n3 < (ll10 : Int))) <|
   T.osome pp10 <| fun (a6 : Addr) =>
   T.loads (a6.add ((Int.toNat n3) * 1)) [.int .u8] <| fun (n7 : Int) =>
   cond (n5 != n7)
    (T.ret (.bool false))
    (T.again 0 [.bool b2, .int .i64 (IntKind.wrap .i64 (n3 + (1 : Int)))]))
   (T.ret (.bool true)))
theorem t_spandrelbook_Same_byte__eq (pp00 : Option Addr) (ll00 cc00 : Nat) (pp10 : Option Addr) (ll10 cc10 : Nat) : xfun Tryz.prog [] Tryz.f34 [.slice pp00 ll00 cc00, .slice pp10 ll10 cc10] = t_spandrelbook_Same_byte_ pp00 ll00 cc00 pp10 ll10 cc10 := by kernel_rfl

/-- The tree of 10. -/
def t_spandrelkeep_Large (pp00 : Option Addr) (ll00 cc00 : Nat) : T :=
 T.loop [(false, [.bool]), (false, [.int .i64]), (false, [.int .i64])] [.bool false, .int .i64 (0 : Int), .int .i64 (0 : Int)] <| fun (b1 : Bool) (n2 : Int) (n3 : Int) =>
 cond (decide (n3 < (ll00 : Int)))
  (cond (decide (n3 < (65 : Int)))
   (T.need (((0 : Int) ≤ n3) ∧ (n3 < (ll00 : Int))) <|
   T.osome pp00 <| fun (a4 : Addr) =>
   T.loads (a4.add ((Int.toNat n3) * 4)) [.slice 102] <| fun (p5 : Option Addr) (l6 : Nat) (l7 : Nat) =>
   cond (decide ((l6 : Int) > (600 : Int)))
    (T.ret (.bool true))
    (T.need (((0 : Int) ≤ n3) ∧ (n3 < (ll00 : Int))) <|
    T.osome pp00 <| fun (a8 : Addr) =>
    T.loads ((a8.add ((Int.toNat n3) * 4)).add 1) [.slice 102] <| fun (p9 : Option Addr) (l10 : Nat) (l11 : Nat) =>
    cond (decide ((l10 : Int) > (300 : Int)))
     (T.ret (.bool true))
     (T.need (((0 : Int) ≤ n3) ∧ (n3 < (ll00 : Int))) <|
     T.osome pp00 <| fun (a12 : Addr) =>
     T.loads ((a12.add ((Int.toNat n3) * 4)).add 2) [.slice 78] <| fun (p13 : Option Addr) (l14 : Nat) (l15 : Nat) =>
     cond (decide ((l14 : Int) > (100 : Int)))
      (T.ret (.bool true))
      (T.need (((0 : Int) ≤ n3) ∧ (n3 < (ll00 : Int))) <|
      T.osome pp00 <| fun (a16 : Addr) =>
      T.loads (a16.add ((Int.toNat n3) * 4)) [.slice 102] <| fun (p17 : Option Addr) (l18 : Nat) (l19 : Nat) =>
      T.need (((0 : Int) ≤ n3) ∧ (n3 < (ll00 : Int))) <|
      T.osome pp00 <| fun (a20 : Addr) =>
      T.loads ((a20.add ((Int.toNat n3) * 4)).add 1) [.slice 102] <| fun (p21 : Option Addr) (l22 : Nat) (l23 : Nat) =>
      T.need (((0 : Int) ≤ n3) ∧ (n3 < (ll00 : Int))) <|
      T.osome pp00 <| fun (a24 : Addr) =>
      T.loads ((a24.add ((Int.toNat n3) * 4)).add 2) [.slice 78] <| fun (p25 : Option Addr) (l26 : Nat) (l27 : Nat) =>
      T.again 0 [.bool b1, .int .i64 (IntKind.wrap .i64 ((IntKind.wrap .i64 ((IntKind.wrap .i64 (n2 + (l18 : Int))) + (l22 : Int))) + (l26 : Int))), .int .i64 (IntKind.wrap .i64 (n3 + (1 : Int)))]))))
   (T.ret (.bool (decide (n2 > (900 : Int))))))
  (T.ret (.bool (decide (n2 > (900 : Int)))))
theorem t_spandrelkeep_Large_eq (pp00 : Option Addr) (ll00 cc00 : Nat) : xfun Tryz.prog [] Tryz.f12 [.slice pp00 ll00 cc00] = t_spandrelkeep_Large pp00 ll00 cc00 := by kernel_rfl

/-- The tree of 42. -/
def t__api_Errno__Error (n0 : Int) : T :=
 cond (n0 == (0 : Int))
  (T.ret (.string ⟨#[110, 111, 32, 101, 114, 114, 111, 114]⟩))
  (cond (n0 == (1 : Int))
   (T.ret (.string ⟨#[97, 110, 32, 97, 114, 103, 117, 109, 101, 110, 116, 32, 116, 104, 97, 116, 32, 109, 97, 121, 32, 110, 111, 116, 32, 98, 101]⟩))
   (cond (n0 == (20 : Int))
    (T.ret (.string ⟨#[97, 32, 108, 105, 110, 101, 32, 116, 104, 97, 116, 32, 99, 97, 110, 39, 116, 32, 98, 101, 32, 114, 101, 97, 100]⟩))
    (cond (n0 == (23 : Int))
     (T.ret (.string ⟨#[97, 32, 110, 97, 109, 101, 32, 116, 104, 97, 116, 32, 110, 111, 98, 111, 100, 121, 32, 103, 105, 118, 101, 115]⟩))
     (cond (decide (n0 < (0 : Int)))
      (T.loop [(false, [.int .i64]), (false, [.slice 0])] [.int .i64 (0 : Int), .slice none 0 0] <| fun (n1 : Int) (p2 : Option Addr) (l3 : Nat) (l4 : Nat) =>
      cond (decide (n1 > (0 : Int)))
       (T.need ((10 : Int) ≠ (0 : Int)) <|
       T.sem Tryz.prog (Instr.buildSlice 22 1 #[(0, .int .u8 (IntKind.wrap .u8 (IntKind.wrap .i64 ((48 : Int) + (Int.tmod n1 (10 : Int))))))]) false [(false, [.slice 0])] <| fun (p5 : Option Addr) (l6 : Nat) (l7 : Nat) =>
       T.sem Tryz.prog (Builtin.append_ #[22, 22] 22 #[.slice p5 l6 l7, .slice p2 l3 l4]) false [(false, [.slice 0])] <| fun (p8 : Option Addr) (l9 : Nat) (l10 : Nat) =>
       T.need ((10 : Int) ≠ (0 : Int)) <|
       T.again 0 [.int .i64 (IntKind.wrap .i64 (Int.tdiv n1 (10 : Int))), .slice p8 l9 l10])
       (cond ((l3 : Int) == (0 : Int))
        (T.need ((10 : Int) ≠ (0 : Int)) <|
        T.sem Tryz.prog (Instr.buildSlice 22 1 #[(0, .int .u8 (IntKind.wrap .u8 (IntKind.wrap .i64 ((48 : Int) + (Int.tmod n1 (10 : Int))))))]) false [(false, [.slice 0])] <| fun (p5 : Option Addr) (l6 : Nat) (l7 : Nat) =>
        T.sem Tryz.prog (Builtin.append_ #[22, 22] 22 #[.slice p5 l6 l7, .slice p2 l3 l4]) false [(false, [.slice 0])] <| fun (p8 : Option Addr) (l9 : Nat) (l10 : Nat) =>
        T.need ((10 : Int) ≠ (0 : Int)) <|
        T.again 0 [.int .i64 (IntKind.wrap .i64 (Int.tdiv n1 (10 : Int))), .slice p8 l9 l10])
        (T.sem Tryz.prog (convert 22 9 (.slice p2 l3 l4)) false [(false, [.string])] <| fun (s5 : ByteArray) =>
        T.need ((((8 + s5.size) : Nat) : Int) ≤ (9223372036854775807 : Int)) <|
        T.ret (.string (⟨#[114, 101, 102, 117, 115, 97, 108, 32]⟩ ++ s5)))))
      (T.loop [(false, [.int .i64]), (false, [.slice 0])] [.int .i64 n0, .slice none 0 0] <| fun (n1 : Int) (p2 : Option Addr) (l3 : Nat) (l4 : Nat) =>
      cond (decide (n1 > (0 : Int)))
       (T.need ((10 : Int) ≠ (0 : Int)) <|
       T.sem Tryz.prog (Instr.buildSlice 22 1 #[(0, .int .u8 (IntKind.wrap .u8 (IntKind.wrap .i64 ((48 : Int) + (Int.tmod n1 (10 : Int))))))]) false [(false, [.slice 0])] <| fun (p5 : Option Addr) (l6 : Nat) (l7 : Nat) =>
       T.sem Tryz.prog (Builtin.append_ #[22, 22] 22 #[.slice p5 l6 l7, .slice p2 l3 l4]) false [(false, [.slice 0])] <| fun (p8 : Option Addr) (l9 : Nat) (l10 : Nat) =>
       T.need ((10 : Int) ≠ (0 : Int)) <|
       T.again 0 [.int .i64 (IntKind.wrap .i64 (Int.tdiv n1 (10 : Int))), .slice p8 l9 l10])
       (cond ((l3 : Int) == (0 : Int))
        (T.need ((10 : Int) ≠ (0 : Int)) <|
        T.sem Tryz.prog (Instr.buildSlice 22 1 #[(0, .int .u8 (IntKind.wrap .u8 (IntKind.wrap .i64 ((48 : Int) + (Int.tmod n1 (10 : Int))))))]) false [(false, [.slice 0])] <| fun (p5 : Option Addr) (l6 : Nat) (l7 : Nat) =>
        T.sem Tryz.prog (Builtin.append_ #[22, 22] 22 #[.slice p5 l6 l7, .slice p2 l3 l4]) false [(false, [.slice 0])] <| fun (p8 : Option Addr) (l9 : Nat) (l10 : Nat) =>
        T.need ((10 : Int) ≠ (0 : Int)) <|
        T.again 0 [.int .i64 (IntKind.wrap .i64 (Int.tdiv n1 (10 : Int))), .slice p8 l9 l10])
        (T.sem Tryz.prog (convert 22 9 (.slice p2 l3 l4)) false [(false, [.string])] <| fun (s5 : ByteArray) =>
        T.need ((((8 + s5.size) : Nat) : Int) ≤ (9223372036854775807 : Int)) <|
        T.ret (.string (⟨#[114, 101, 102, 117, 115, 97, 108, 32]⟩ ++ s5)))))))))
theorem t__api_Errno__Error_eq (n0 : Int) : xfun Tryz.prog [] Tryz.f63 [.int .i64 n0] = t__api_Errno__Error n0 := by kernel_rfl

/-- The tree of 20. -/
def t_object_Refusal__Error (p0 : Option Addr) : T :=
 T.osome p0 <| fun (a1 : Addr) =>
 T.loads a1 [.int .i64] <| fun (n2 : Int) =>
 T.osome p0 <| fun (a3 : Addr) =>
 T.loads (a3.add 1) [.int .i64] <| fun (n4 : Int) =>
 T.call Tryz.prog 62 [.int .i64 n2] false [(false, [.string])] <| fun (s5 : ByteArray) =>
 T.stable [((a3.add 1), [.int .i64 n4])] <|
 T.need ((((5 + s5.size) : Nat) : Int) ≤ (9223372036854775807 : Int)) <|
 T.need (((((ByteArray.size (⟨#[98, 121, 116, 101, 32]⟩ ++ s5)) + 2) : Nat) : Int) ≤ (9223372036854775807 : Int)) <|
 T.call Tryz.prog 63 [.int .i64 n4] false [(false, [.string])] <| fun (s6 : ByteArray) =>
 T.stable [(a1, [.int .i64 n2])] <|
 T.need (((((ByteArray.size ((⟨#[98, 121, 116, 101, 32]⟩ ++ s5) ++ ⟨#[58, 32]⟩)) + s6.size) : Nat) : Int) ≤ (9223372036854775807 : Int)) <|
 T.ret (.string (((⟨#[98, 121, 116, 101, 32]⟩ ++ s5) ++ ⟨#[58, 32]⟩) ++ s6))
theorem t_object_Refusal__Error_eq (p0 : Option Addr) : xfun Tryz.prog [] Tryz.f27 [.pointer p0] = t_object_Refusal__Error p0 := by kernel_rfl

/-- The tree of 22. -/
def t_object_Refusal__Unwrap (p0 : Option Addr) : T :=
 T.osome p0 <| fun (a1 : Addr) =>
 T.loads (a1.add 1) [.int .i64] <| fun (n2 : Int) =>
 T.ret (.iface 48 (.int .i64 n2))
theorem t_object_Refusal__Unwrap_eq (p0 : Option Addr) : xfun Tryz.prog [] Tryz.f29 [.pointer p0] = t_object_Refusal__Unwrap p0 := by kernel_rfl

/-- The tree of 21. -/
def t_spandrellaw10_sameErr (v0 : Value) (v1 : Value) : T :=
 T.sem Tryz.prog (Sx.cmpS (BinOp.eql) 30 (Operand.tmp 5) (Operand.const Value.nilIface) v0 .nilIface) false [(false, [.bool])] <| fun (b2 : Bool) =>
 cond b2
  (T.sem Tryz.prog (Sx.cmpS (BinOp.eql) 30 (Operand.tmp 11) (Operand.const Value.nilIface) v0 .nilIface) false [(false, [.bool])] <| fun (b3 : Bool) =>
  cond b3
   (T.sem Tryz.prog (Sx.cmpS (BinOp.eql) 30 (Operand.tmp 14) (Operand.const Value.nilIface) v1 .nilIface) false [(false, [.bool])] <| fun (b4 : Bool) =>
   T.ret (.bool b4))
   (T.ret (.bool false)))
  (T.sem Tryz.prog (Sx.cmpS (BinOp.eql) 30 (Operand.tmp 8) (Operand.const Value.nilIface) v1 .nilIface) false [(false, [.bool])] <| fun (b3 : Bool) =>
  cond b3
   (T.sem Tryz.prog (Sx.cmpS (BinOp.eql) 30 (Operand.tmp 11) (Operand.const Value.nilIface) v0 .nilIface) false [(false, [.bool])] <| fun (b4 : Bool) =>
   cond b4
    (T.sem Tryz.prog (Sx.cmpS (BinOp.eql) 30 (Operand.tmp 14) (Operand.const Value.nilIface) v1 .nilIface) false [(false, [.bool])] <| fun (b5 : Bool) =>
    T.ret (.bool b5))
    (T.ret (.bool false)))
   (T.sem Tryz.prog (Sx.cmpS (BinOp.eql) 30 (Operand.tmp 17) (Operand.tmp 18) v0 v1) false [(false, [.bool])] <| fun (b4 : Bool) =>
   T.ret (.bool b4)))
theorem t_spandrellaw10_sameErr_eq (v0 : Value) (v1 : Value) : xfun Tryz.prog [] Tryz.f28 [v0, v1] = t_spandrellaw10_sameErr v0 v1 := by kernel_rfl

end Go.Sx
