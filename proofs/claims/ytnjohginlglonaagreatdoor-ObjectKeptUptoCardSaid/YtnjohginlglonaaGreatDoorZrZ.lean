/- Trees of functions, each checked by the kernel against the code. No condition. -/
import Derived.Test.YtnjohginlglonaaGreatDoorSxF
import Derived.Test.YtnjohginlglonaaGreatDoorProg
import Derived.KernelRfl
set_option linter.unusedVariables false
set_option linter.unusedSimpArgs false
set_option linter.deprecated false
set_option maxRecDepth 100000
namespace Go.Sx
open Go.Proofs
/-- The tree of 15. -/
def t_spandrelbook_Book_byte___Keep (p0 : Option Addr) (pp10 : Option Addr) (ll10 cc10 : Nat) : T :=
 T.join []
  (T.osome p0 <| fun (a2 : Addr) =>
  T.loads a2 [.slice 22] <| fun (p3 : Option Addr) (l4 : Nat) (l5 : Nat) =>
  T.sem Tryz.prog (Instr.buildSlice 45 1 #[(0, .slice pp10 ll10 cc10)]) false [(false, [.slice 0])] <| fun (p6 : Option Addr) (l7 : Nat) (l8 : Nat) =>
  T.sem Tryz.prog (Builtin.append_ #[45, 45] 45 #[.slice p3 l4 l5, .slice p6 l7 l8]) false [(false, [.slice 0])] <| fun (p9 : Option Addr) (l10 : Nat) (l11 : Nat) =>
  T.osome p0 <| fun (a12 : Addr) =>
  T.stores a12 [.slice p9 l10 l11] <|
  T.again 0 []) <| T.join []
  (T.osome p0 <| fun (a2 : Addr) =>
  T.loads (a2.add 1) [.slice 22] <| fun (p3 : Option Addr) (l4 : Nat) (l5 : Nat) =>
  T.sem Tryz.prog (Builtin.append_ #[22, 22] 22 #[.slice none 0 0, .slice pp10 ll10 cc10]) false [(false, [.slice 0])] <| fun (p6 : Option Addr) (l7 : Nat) (l8 : Nat) =>
  T.stable [((a2.add 1), [.slice p3 l4 l5])] <|
  T.sem Tryz.prog (Instr.buildSlice 45 1 #[(0, .slice p6 l7 l8)]) false [(false, [.slice 0])] <| fun (p9 : Option Addr) (l10 : Nat) (l11 : Nat) =>
  T.stable [((a2.add 1), [.slice p3 l4 l5])] <|
  T.sem Tryz.prog (Builtin.append_ #[45, 45] 45 #[.slice p3 l4 l5, .slice p9 l10 l11]) false [(false, [.slice 0])] <| fun (p12 : Option Addr) (l13 : Nat) (l14 : Nat) =>
  T.osome p0 <| fun (a15 : Addr) =>
  T.stores (a15.add 1) [.slice p12 l13 l14] <|
  T.again 0 []) <| T.osome p0 <| fun (a2 : Addr) =>
 T.loads (a2.add 2) [.int .i64] <| fun (n3 : Int) =>
 T.osome p0 <| fun (a4 : Addr) =>
 T.stores (a4.add 2) [.int .i64 (IntKind.wrap .i64 ((IntKind.wrap .i64 (n3 + (cc10 : Int))) + (1 : Int)))] <|
 T.loop [] [] <| T.join []
  (T.osome p0 <| fun (a5 : Addr) =>
  T.loads a5 [.slice 22] <| fun (p6 : Option Addr) (l7 : Nat) (l8 : Nat) =>
  cond (decide ((l7 : Int) > (1 : Int)))
   (T.osome p0 <| fun (a9 : Addr) =>
   T.loads (a9.add 2) [.int .i64] <| fun (n10 : Int) =>
   cond (decide (n10 > (1000000 : Int)))
    (T.again 1 [])
    (T.osome p0 <| fun (a11 : Addr) =>
    T.loads a11 [.slice 22] <| fun (p12 : Option Addr) (l13 : Nat) (l14 : Nat) =>
    cond (decide ((l13 : Int) > (4000 : Int)))
     (T.again 1 [])
     (T.ret (.tuple #[]))))
   (T.ret (.tuple #[]))) <| T.join []
  (T.osome p0 <| fun (a5 : Addr) =>
  T.loads (a5.add 3) [.bool] <| fun (b6 : Bool) =>
  cond b6
   (T.osome p0 <| fun (a7 : Addr) =>
   T.stores (a7.add 3) [.bool true] <|
   T.again 1 [])
   (T.osome p0 <| fun (a7 : Addr) =>
   T.loads a7 [.slice 22] <| fun (p8 : Option Addr) (l9 : Nat) (l10 : Nat) =>
   T.need (((0 : Int) ≤ (0 : Int)) ∧ ((0 : Int) < (l9 : Int))) <|
   T.osome p8 <| fun (a11 : Addr) =>
   T.loads a11 [.slice 5] <| fun (p12 : Option Addr) (l13 : Nat) (l14 : Nat) =>
   T.osome p0 <| fun (a15 : Addr) =>
   T.loads (a15.add 1) [.slice 22] <| fun (p16 : Option Addr) (l17 : Nat) (l18 : Nat) =>
   T.need (((0 : Int) ≤ (0 : Int)) ∧ ((0 : Int) < (l17 : Int))) <|
   T.osome p16 <| fun (a19 : Addr) =>
   T.loads a19 [.slice 5] <| fun (p20 : Option Addr) (l21 : Nat) (l22 : Nat) =>
   T.call Tryz.prog 34 [.slice p12 l13 l14, .slice p20 l21 l22] false [(false, [.bool])] <| fun (b23 : Bool) =>
   T.stable [((a15.add 1), [.slice p16 l17 l18]), (a7, [.slice p8 l9 l10]), ((a5.add 3), [.bool b6])] <|
   T.osome p0 <| fun (a24 : Addr) =>
   T.stores (a24.add 3) [.bool (!b23)] <|
   T.again 1 [])) <| T.osome p0 <| fun (a5 : Addr) =>
 T.loads (a5.add 2) [.int .i64] <| fun (n6 : Int) =>
 T.osome p0 <| fun (a7 : Addr) =>
 T.loads a7 [.slice 22] <| fun (p8 : Option Addr) (l9 : Nat) (l10 : Nat) =>
 T.need (((0 : Int) ≤ (0 : Int)) ∧ ((0 : Int) < (l9 : Int))) <|
 T.osome p8 <| fun (a11 : Addr) =>
 T.loads a11 [.slice 5] <| fun (p12 : Option Addr) (l13 : Nat) (l14 : Nat) =>
 T.osome p0 <| fun (a15 : Addr) =>
 T.stores (a15.add 2) [.int .i64 (IntKind.wrap .i64 ((IntKind.wrap .i64 (n6 - (l14 : Int))) - (1 : Int)))] <|
 T.osome p0 <| fun (a16 : Addr) =>
 T.loads a16 [.slice 22] <| fun (p17 : Option Addr) (l18 : Nat) (l19 : Nat) =>
 T.need (((0 : Int) ≤ (1 : Int)) ∧ (((1 : Int) ≤ (l18 : Int)) ∧ ((l18 : Int) ≤ (l19 : Int)))) <|
 T.osome p0 <| fun (a20 : Addr) =>
 T.stores a20 [.slice (if (l19 = 1) then p17 else (Option.map (fun a => Addr.add a 1) p17)) ((Int.toNat (l18 : Int)) - 1) (l19 - 1)] <|
 T.osome p0 <| fun (a21 : Addr) =>
 T.loads (a21.add 1) [.slice 22] <| fun (p22 : Option Addr) (l23 : Nat) (l24 : Nat) =>
 T.need (((0 : Int) ≤ (1 : Int)) ∧ (((1 : Int) ≤ (l23 : Int)) ∧ ((l23 : Int) ≤ (l24 : Int)))) <|
 T.osome p0 <| fun (a25 : Addr) =>
 T.stores (a25.add 1) [.slice (if (l24 = 1) then p22 else (Option.map (fun a => Addr.add a 1) p22)) ((Int.toNat (l23 : Int)) - 1) (l24 - 1)] <|
 T.again 0 []
theorem t_spandrelbook_Book_byte___Keep_eq (p0 : Option Addr) (pp10 : Option Addr) (ll10 cc10 : Nat) : xfun Tryz.prog [0, 1, 1004, 4] Tryz.f15 [.pointer p0, .slice pp10 ll10 cc10] = t_spandrelbook_Book_byte___Keep p0 pp10 ll10 cc10 := by kernel_rfl

/-- The tree of 48. -/
def t_spandrelbook_Book_byte___Stays (p0 : Option Addr) : T :=
 T.loop [(false, [.int .i64])] [.int .i64 (0 : Int)] <| fun (n1 : Int) =>
 T.osome p0 <| fun (a2 : Addr) =>
 T.loads a2 [.slice 22] <| fun (p3 : Option Addr) (l4 : Nat) (l5 : Nat) =>
 cond (decide (n1 < (l4 : Int)))
  (T.osome p0 <| fun (a6 : Addr) =>
  T.loads (a6.add 3) [.bool] <| fun (b7 : Bool) =>
  cond b7
   (T.osome p0 <| fun (a8 : Addr) =>
   T.stores (a8.add 3) [.bool true] <|
   T.again 0 [.int .i64 (IntKind.wrap .i64 (n1 + (1 : Int)))])
   (T.osome p0 <| fun (a8 : Addr) =>
   T.loads a8 [.slice 22] <| fun (p9 : Option Addr) (l10 : Nat) (l11 : Nat) =>
   T.need (((0 : Int) ≤ n1) ∧ (n1 < (l10 : Int))) <|
   T.osome p9 <| fun (a12 : Addr) =>
   T.loads (a12.add ((Int.toNat n1) * 1)) [.slice 5] <| fun (p13 : Option Addr) (l14 : Nat) (l15 : Nat) =>
   T.osome p0 <| fun (a16 : Addr) =>
   T.loads (a16.add 1) [.slice 22] <| fun (p17 : Option Addr) (l18 : Nat) (l19 : Nat) =>
   T.need (((0 : Int) ≤ n1) ∧ (n1 < (l18 : Int))) <|
   T.osome p17 <| fun (a20 : Addr) =>
   T.loads (a20.add ((Int.toNat n1) * 1)) [.slice 5] <| fun (p21 : Option Addr) (l22 : Nat) (l23 : Nat) =>
   T.call Tryz.prog 34 [.slice p13 l14 l15, .slice p21 l22 l23] false [(false, [.bool])] <| fun (b24 : Bool) =>
   T.stable [((a16.add 1), [.slice p17 l18 l19]), (a8, [.slice p9 l10 l11]), ((a6.add 3), [.bool b7])] <|
   T.osome p0 <| fun (a25 : Addr) =>
   T.stores (a25.add 3) [.bool (!b24)] <|
   T.again 0 [.int .i64 (IntKind.wrap .i64 (n1 + (1 : Int)))]))
  (T.osome p0 <| fun (a6 : Addr) =>
  T.loads (a6.add 3) [.bool] <| fun (b7 : Bool) =>
  T.ret (.bool (!b7)))
theorem t_spandrelbook_Book_byte___Stays_eq (p0 : Option Addr) : xfun Tryz.prog [] Tryz.f48 [.pointer p0] = t_spandrelbook_Book_byte___Stays p0 := by kernel_rfl

/-- The tree of 18. -/
def t_spandrelbook_Book_byte___Apart (p0 : Option Addr) (v1 : Value) : T :=
 T.call Tryz.prog 48 [.pointer p0] false [(false, [.bool])] <| fun (b2 : Bool) =>
 cond (!b2)
  (T.ret (.bool false))
  (T.loop [(false, [.int .i64])] [.int .i64 (0 : Int)] <| fun (n3 : Int) =>
  T.osome p0 <| fun (a4 : Addr) =>
  T.loads a4 [.slice 22] <| fun (p5 : Option Addr) (l6 : Nat) (l7 : Nat) =>
  cond (decide (n3 < (l6 : Int)))
   (T.osome p0 <| fun (a8 : Addr) =>
   T.loads a8 [.slice 22] <| fun (p9 : Option Addr) (l10 : Nat) (l11 : Nat) =>
   T.need (((0 : Int) ≤ n3) ∧ (n3 < (l10 : Int))) <|
   T.osome p9 <| fun (a12 : Addr) =>
   T.loads (a12.add ((Int.toNat n3) * 1)) [.slice 5] <| fun (p13 : Option Addr) (l14 : Nat) (l15 : Nat) =>
   T.osome p0 <| fun (a16 : Addr) =>
   T.loads a16 [.slice 22] <| fun (p17 : Option Addr) (l18 : Nat) (l19 : Nat) =>
   T.need (((0 : Int) ≤ n3) ∧ (n3 < (l18 : Int))) <|
   T.osome p17 <| fun (a20 : Addr) =>
   T.loads (a20.add ((Int.toNat n3) * 1)) [.slice 5] <| fun (p21 : Option Addr) (l22 : Nat) (l23 : Nat) =>
   T.need (((0 : Int) ≤ (0 : Int)) ∧ (((0 : Int) ≤ (l23 : Int)) ∧ ((l23 : Int) ≤ (l15 : Int)))) <|
   T.loop [(false, [.int .i64])] [.int .i64 (0 : Int)] <| fun (n24 : Int) =>
   cond (decide (n24 < ((((Int.toNat (l23 : Int)) - 0) : Nat) : Int)))
    (T.callv Tryz.prog v1 [.int .i64 n3, .int .i64 n24] false [(false, [.int .u8])] <| fun (n25 : Int) =>
    T.need (((0 : Int) ≤ n24) ∧ (n24 < ((((Int.toNat (l23 : Int)) - 0) : Nat) : Int))) <|
    T.osome (if (l15 = 0) then p13 else (Option.map (fun a => Addr.add a 0) p13)) <| fun (a26 : Addr) =>
    T.stores (a26.add ((Int.toNat n24) * 1)) [.int .u8 n25] <|
    T.again 1 [.int .i64 (IntKind.wrap .i64 (n24 + (1 : Int)))])
    (T.again 0 [.int .i64 (IntKind.wrap .i64 (n3 + (1 : Int)))]))
   (T.loop [(false, [.bool]), (false, [.int .i64])] [.bool false, .int .i64 (0 : Int)] <| fun (b8 : Bool) (n9 : Int) =>
   T.osome p0 <| fun (a10 : Addr) =>
   T.loads a10 [.slice 22] <| fun (p11 : Option Addr) (l12 : Nat) (l13 : Nat) =>
   cond (decide (n9 < (l12 : Int)))
    (T.osome p0 <| fun (a14 : Addr) =>
    T.loads a14 [.slice 22] <| fun (p15 : Option Addr) (l16 : Nat) (l17 : Nat) =>
    T.need (((0 : Int) ≤ n9) ∧ (n9 < (l16 : Int))) <|
    T.osome p15 <| fun (a18 : Addr) =>
    T.loads (a18.add ((Int.toNat n9) * 1)) [.slice 5] <| fun (p19 : Option Addr) (l20 : Nat) (l21 : Nat) =>
    T.osome p0 <| fun (a22 : Addr) =>
    T.loads a22 [.slice 22] <| fun (p23 : Option Addr) (l24 : Nat) (l25 : Nat) =>
    T.need (((0 : Int) ≤ n9) ∧ (n9 < (l24 : Int))) <|
    T.osome p23 <| fun (a26 : Addr) =>
    T.loads (a26.add ((Int.toNat n9) * 1)) [.slice 5] <| fun (p27 : Option Addr) (l28 : Nat) (l29 : Nat) =>
    T.need (((0 : Int) ≤ (0 : Int)) ∧ (((0 : Int) ≤ (l29 : Int)) ∧ ((l29 : Int) ≤ (l21 : Int)))) <|
    T.loop [(false, [.bool]), (false, [.int .i64])] [.bool b8, .int .i64 (0 : Int)] <| fun (b30 : Bool) (n31 : Int) =>
    cond (decide (n31 < ((((Int.toNat (l29 : Int)) - 0) : Nat) : Int)))
     (T.need (((0 : Int) ≤ n31) ∧ (n31 < ((((Int.toNat (l29 : Int)) - 0) : Nat) : Int))) <|
     T.osome (if (l21 = 0) then p19 else (Option.map (fun a => Addr.add a 0) p19)) <| fun (a32 : Addr) =>
     T.loads (a32.add ((Int.toNat n31) * 1)) [.int .u8] <| fun (n33 : Int) =>
     T.callv Tryz.prog v1 [.int .i64 n9, .int .i64 n31] false [(false, [.int .u8])] <| fun (n34 : Int) =>
     T.stable [((a32.add ((Int.toNat n31) * 1)), [.int .u8 n33])] <|
     cond (n33 != n34)
      (T.ret (.bool false))
      (T.again 2 [.bool b30, .int .i64 (IntKind.wrap .i64 (n31 + (1 : Int)))]))
     (T.again 1 [.bool b30, .int .i64 (IntKind.wrap .i64 (n9 + (1 : Int)))]))
    (T.osome p0 <| fun (a14 : Addr) =>
    T.stores a14 [.slice none 0 0] <|
    T.osome p0 <| fun (a15 : Addr) =>
    T.stores (a15.add 1) [.slice none 0 0] <|
    T.osome p0 <| fun (a16 : Addr) =>
    T.stores (a16.add 2) [.int .i64 (0 : Int)] <|
    T.ret (.bool true))))
theorem t_spandrelbook_Book_byte___Apart_eq (p0 : Option Addr) (v1 : Value) : xfun Tryz.prog [] Tryz.f18 [.pointer p0, v1] = t_spandrelbook_Book_byte___Apart p0 v1 := by kernel_rfl

/-- The tree of 19. -/
def t_spandrelbook_Bytes (n0 : Int) (n1 : Int) : T :=
 T.need ((3 : Int) ≠ (0 : Int)) <|
 T.need ((0 : Int) ≤ (IntKind.wrap .u64 (IntKind.wrap .i64 ((8 : Int) * (Int.tmod n1 (3 : Int)))))) <|
 T.ret (.int .u8 (IntKind.wrap .u8 (Int.fdiv (IntKind.wrap .i64 (n0 + (1 : Int))) ((2 : Int) ^ (/-?Min.min-/ min (IntKind.u64.wrap (IntKind.i64.wrap (8 * n1.tmod 3))).toNat IntKind.i64.bits)))))
theorem t_spandrelbook_Bytes_eq (n0 : Int) (n1 : Int) : xfun Tryz.prog [] Tryz.f19 [.int .i64 n0, .int .i64 n1] = t_spandrelbook_Bytes n0 n1 := by kernel_rfl

end Go.Sx
