/- Trees of functions, each checked by the kernel against the code. No condition. -/
import Derived.Test.YtpbjlnlekobodaaSxF
import Derived.Test.YtpbjlnlekobodaaProg
import Derived.KernelRfl
set_option linter.unusedVariables false
set_option linter.unusedSimpArgs false
set_option linter.deprecated false
set_option maxRecDepth 100000
namespace Go.Sx
open Go.Proofs
/-- The tree of 6. -/
def t_spandrellaw11_EquTurned (pp00 : Option Addr) (ll00 cc00 : Nat) (n1 : Int) : T :=
 T.call Try.prog 7 [.slice pp00 ll00 cc00] false [(false, [.bool])] <| fun (b2 : Bool) =>
 cond (!b2)
  (T.call Try.prog 8 [] false [(false, [.bool])] <| fun (b3 : Bool) =>
  T.ret (.bool b3))
  (cond ((ll00 : Int) == (0 : Int))
   (T.call Try.prog 8 [] false [(false, [.bool])] <| fun (b3 : Bool) =>
   T.ret (.bool b3))
   (T.call Try.prog 22 [.int .i64 n1, .int .i64 (0 : Int), .int .i64 (IntKind.wrap .i64 ((ll00 : Int) - (1 : Int)))] false [(false, [.int .i64])] <| fun (n3 : Int) =>
   T.need (((0 : Int) ≤ n3) ∧ ((n3 ≤ (ll00 : Int)) ∧ ((ll00 : Int) ≤ (cc00 : Int)))) <|
   T.need (((0 : Int) ≤ (0 : Int)) ∧ (((0 : Int) ≤ n3) ∧ (n3 ≤ (cc00 : Int)))) <|
   T.sem Try.prog (Instr.buildSlice 22 0 #[]) false [(false, [.slice 0])] <| fun (p4 : Option Addr) (l5 : Nat) (l6 : Nat) =>
   T.sem Try.prog (Builtin.append_ #[22, 22] 22 #[.slice p4 l5 l6, .slice (if (cc00 = (Int.toNat n3)) then pp00 else (Option.map (fun a => Addr.add a ((Int.toNat n3) * 3)) pp00)) ((Int.toNat (ll00 : Int)) - (Int.toNat n3)) (cc00 - (Int.toNat n3))]) false [(false, [.slice 0])] <| fun (p7 : Option Addr) (l8 : Nat) (l9 : Nat) =>
   T.sem Try.prog (Builtin.append_ #[22, 22] 22 #[.slice p7 l8 l9, .slice (if (cc00 = 0) then pp00 else (Option.map (fun a => Addr.add a 0) pp00)) ((Int.toNat n3) - 0) (cc00 - 0)]) false [(false, [.slice 0])] <| fun (p10 : Option Addr) (l11 : Nat) (l12 : Nat) =>
   T.call Try.prog 9 [.slice pp00 ll00 cc00] true [(false, [.slice 38]), (false, [.int .i64]), (false, [.int .i64])] <| fun (p13 : Option Addr) (l14 : Nat) (l15 : Nat) (n16 : Int) (n17 : Int) =>
   T.call Try.prog 9 [.slice p10 l11 l12] true [(false, [.slice 38]), (false, [.int .i64]), (false, [.int .i64])] <| fun (p18 : Option Addr) (l19 : Nat) (l20 : Nat) (n21 : Int) (n22 : Int) =>
   cond (n17 != n22)
    (T.ret (.bool false))
    (cond ((l14 : Int) != (l19 : Int))
     (T.ret (.bool false))
     (cond (n17 != (0 : Int))
      (T.call Try.prog 10 [.slice pp00 ll00 cc00] false [(false, [.slice 9])] <| fun (p23 : Option Addr) (l24 : Nat) (l25 : Nat) =>
      T.call Try.prog 10 [.slice p10 l11 l12] false [(false, [.slice 9])] <| fun (p26 : Option Addr) (l27 : Nat) (l28 : Nat) =>
      T.call Try.prog 21 [.slice p23 l24 l25, .slice p26 l27 l28] false [(false, [.bool])] <| fun (b29 : Bool) =>
      cond b29
       (T.call Try.prog 8 [] false [(false, [.bool])] <| fun (b30 : Bool) =>
       T.ret (.bool b30))
       (T.ret (.bool false)))
      (T.need (((0 : Int) ≤ n3) ∧ ((n3 ≤ (l14 : Int)) ∧ ((l14 : Int) ≤ (l15 : Int)))) <|
      T.need (((0 : Int) ≤ (0 : Int)) ∧ (((0 : Int) ≤ n3) ∧ (n3 ≤ (l15 : Int)))) <|
      T.sem Try.prog (Instr.buildSlice 22 0 #[]) false [(false, [.slice 0])] <| fun (p23 : Option Addr) (l24 : Nat) (l25 : Nat) =>
      T.sem Try.prog (Builtin.append_ #[22, 22] 22 #[.slice p23 l24 l25, .slice (if (l15 = (Int.toNat n3)) then p13 else (Option.map (fun a => Addr.add a ((Int.toNat n3) * 3)) p13)) ((Int.toNat (l14 : Int)) - (Int.toNat n3)) (l15 - (Int.toNat n3))]) false [(false, [.slice 0])] <| fun (p26 : Option Addr) (l27 : Nat) (l28 : Nat) =>
      T.sem Try.prog (Builtin.append_ #[22, 22] 22 #[.slice p26 l27 l28, .slice (if (l15 = 0) then p13 else (Option.map (fun a => Addr.add a 0) p13)) ((Int.toNat n3) - 0) (l15 - 0)]) false [(false, [.slice 0])] <| fun (p29 : Option Addr) (l30 : Nat) (l31 : Nat) =>
      T.call Try.prog 18 [.slice p29 l30 l31, .slice p18 l19 l20] false [(false, [.bool])] <| fun (b32 : Bool) =>
      cond (!b32)
       (T.ret (.bool false))
       (T.loop [(false, [.bool]), (false, [.int .i64])] [.bool false, .int .i64 (0 : Int)] <| fun (b33 : Bool) (n34 : Int) =>
       cond (decide (n34 < (l14 : Int)))
        (T.need (((0 : Int) ≤ n34) ∧ (n34 < (l14 : Int))) <|
        T.osome p13 <| fun (a35 : Addr) =>
        T.loads ((a35.add ((Int.toNat n34) * 3)).add 1) [.slice 40, .int .u32] <| fun (p36 : Option Addr) (l37 : Nat) (l38 : Nat) (n39 : Int) =>
        T.need (((0 : Int) ≤ n34) ∧ (n34 < (l14 : Int))) <|
        T.osome p13 <| fun (a40 : Addr) =>
        T.loads ((a40.add ((Int.toNat n34) * 3)).add 1) [.slice 40, .int .u32] <| fun (p41 : Option Addr) (l42 : Nat) (l43 : Nat) (n44 : Int) =>
        T.call Try.prog 15 [.agg #[.slice p36 l37 l38, .int .u32 n39], .slice p13 l14 l15] false [(true, [.slice 40, .int .u32])] <| fun (p45 : Option Addr) (l46 : Nat) (l47 : Nat) (n48 : Int) =>
        T.stable [(((a40.add ((Int.toNat n34) * 3)).add 1), [.slice p41 l42 l43, .int .u32 n44])] <|
        T.call Try.prog 23 [.agg #[.slice p45 l46 l47, .int .u32 n48], .agg #[.slice p41 l42 l43, .int .u32 n44]] false [(false, [.bool])] <| fun (b49 : Bool) =>
        T.stable [(((a35.add ((Int.toNat n34) * 3)).add 1), [.slice p36 l37 l38, .int .u32 n39])] <|
        cond (!b49)
         (T.ret (.bool false))
         (T.again 0 [.bool b33, .int .i64 (IntKind.wrap .i64 (n34 + (1 : Int)))]))
        (T.call Try.prog 8 [] false [(false, [.bool])] <| fun (b35 : Bool) =>
        T.ret (.bool b35))))))))
theorem t_spandrellaw11_EquTurned_eq (pp00 : Option Addr) (ll00 cc00 : Nat) (n1 : Int) : xfun Try.prog [] Try.f6 [.slice pp00 ll00 cc00, .int .i64 n1] = t_spandrellaw11_EquTurned pp00 ll00 cc00 n1 := by kernel_rfl

end Go.Sx
