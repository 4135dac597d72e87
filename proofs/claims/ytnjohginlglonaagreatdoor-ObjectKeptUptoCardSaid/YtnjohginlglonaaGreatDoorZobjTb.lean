/- Trees of functions, each checked by the kernel against the code. No condition. -/
import Derived.Test.YtnjohginlglonaaGreatDoorSxF
import Derived.Test.YtnjohginlglonaaGreatDoorProg
import Derived.KernelRfl
set_option linter.unusedVariables false
set_option linter.unusedSimpArgs false
set_option linter.deprecated false
set_option maxRecDepth 100000
namespace Go.Sx
open Go.Proofs
/-- The tree of 8. -/
def t_spandrellaw10_refused (v0 : Value) (n1 : Int) (n1_1 : Int) : T :=
 T.new [.int .i64 n1, .int .i64 n1_1] 34 <| fun (a2 : Addr) =>
 T.loads (a2.add 1) [.int .i64] <| fun (n3 : Int) =>
 cond (n3 == (0 : Int))
  (T.sem Tryz.prog (Sx.cmpS (BinOp.eql) 30 (Operand.tmp 10) (Operand.const Value.nilIface) v0 .nilIface) false [(false, [.bool])] <| fun (b4 : Bool) =>
  T.ret (.bool b4))
  (T.sem Tryz.prog (Instr.typeAssert v0 30 57 true) true [(false, [.pointer 59]), (false, [.bool])] <| fun (p4 : Option Addr) (b5 : Bool) =>
  cond b5
   (cond (!(/-?Option.isSome.match_1-/ match p4 with
   | some val => false
   | none => true))
    (T.osome p4 <| fun (a6 : Addr) =>
    T.loads a6 [.int .i64] <| fun (n7 : Int) =>
    T.loads a2 [.int .i64] <| fun (n8 : Int) =>
    cond (n7 == n8)
     (T.osome p4 <| fun (a9 : Addr) =>
     T.loads (a9.add 1) [.int .i64] <| fun (n10 : Int) =>
     T.loads (a2.add 1) [.int .i64] <| fun (n11 : Int) =>
     cond (n10 == n11)
      (T.call Tryz.prog 27 [.pointer p4] false [(false, [.string])] <| fun (s12 : ByteArray) =>
      T.stable [((a2.add 1), [.int .i64 n11]), ((a9.add 1), [.int .i64 n10]), (a2, [.int .i64 n8]), (a6, [.int .i64 n7])] <|
      cond (!((ByteArray.toList s12) == []))
       (T.osome p4 <| fun (a13 : Addr) =>
       T.loads (a13.add 1) [.int .i64] <| fun (n14 : Int) =>
       T.call Tryz.prog 29 [.pointer p4] false [(false, [.interface #[("Error", 72)]])] <| fun (v15 : Value) =>
       T.stable [((a13.add 1), [.int .i64 n14]), ((a2.add 1), [.int .i64 n11]), ((a9.add 1), [.int .i64 n10]), (a2, [.int .i64 n8]), (a6, [.int .i64 n7])] <|
       T.call Tryz.prog 28 [v15, .iface 48 (.int .i64 n14)] false [(false, [.bool])] <| fun (b16 : Bool) =>
       T.stable [((a13.add 1), [.int .i64 n14]), ((a2.add 1), [.int .i64 n11]), ((a9.add 1), [.int .i64 n10]), (a2, [.int .i64 n8]), (a6, [.int .i64 n7])] <|
       cond b16
        (T.loads (a2.add 1) [.int .i64] <| fun (n17 : Int) =>
        T.call Tryz.prog 30 [v0, .iface 48 (.int .i64 n17)] false [(false, [.bool])] <| fun (b18 : Bool) =>
        T.stable [((a2.add 1), [.int .i64 n17]), ((a13.add 1), [.int .i64 n14]), ((a2.add 1), [.int .i64 n11]), ((a9.add 1), [.int .i64 n10]), (a2, [.int .i64 n8]), (a6, [.int .i64 n7])] <|
        T.ret (.bool b18))
        (T.ret (.bool false)))
       (T.ret (.bool false)))
      (T.ret (.bool false)))
     (T.ret (.bool false)))
    (T.ret (.bool false)))
   (T.ret (.bool false)))
theorem t_spandrellaw10_refused_eq (v0 : Value) (n1 : Int) (n1_1 : Int) : xfun Tryz.prog [] Tryz.f8 [v0, .agg #[.int .i64 n1, .int .i64 n1_1]] = t_spandrellaw10_refused v0 n1 n1_1 := by kernel_rfl

/-- The tree of 9. -/
def t_spandrellaw10_known  : T :=
 T.call Tryz.prog 14 [.agg #[.slice none 0 0, .slice none 0 0, .slice none 0 0, .slice none 0 0]] true [(false, [.slice 5]), (false, [.int .i64])] <| fun (p1 : Option Addr) (l2 : Nat) (l3 : Nat) (n4 : Int) =>
 T.call Tryz.prog 6 [.slice p1 l2 l3] true [(true, [.slice 102, .slice 102, .slice 78, .slice 9]), (false, [.interface #[("Error", 72)]])] <| fun (p5 : Option Addr) (l6 : Nat) (l7 : Nat) (p8 : Option Addr) (l9 : Nat) (l10 : Nat) (p11 : Option Addr) (l12 : Nat) (l13 : Nat) (p14 : Option Addr) (l15 : Nat) (l16 : Nat) (v17 : Value) =>
 T.new [.slice none 0 0, .slice none 0 0, .slice none 0 0, .slice none 0 0] 28 <| fun (a18 : Addr) =>
 T.stores a18 [.slice p5 l6 l7, .slice p8 l9 l10, .slice p11 l12 l13, .slice p14 l15 l16] <|
 T.sem Tryz.prog (Instr.buildSlice 22 4 #[(0, .int .u8 (83 : Int)), (1, .int .u8 (80 : Int)), (2, .int .u8 (65 : Int)), (3, .int .u8 (77 : Int))]) false [(false, [.slice 0])] <| fun (p19 : Option Addr) (l20 : Nat) (l21 : Nat) =>
 T.sem Tryz.prog (convert 22 22 (.slice p19 l20 l21)) false [(false, [.slice 0])] <| fun (p22 : Option Addr) (l23 : Nat) (l24 : Nat) =>
 T.call Tryz.prog 6 [.slice p22 l23 l24] true [(true, [.slice 102, .slice 102, .slice 78, .slice 9]), (false, [.interface #[("Error", 72)]])] <| fun (p25 : Option Addr) (l26 : Nat) (l27 : Nat) (p28 : Option Addr) (l29 : Nat) (l30 : Nat) (p31 : Option Addr) (l32 : Nat) (l33 : Nat) (p34 : Option Addr) (l35 : Nat) (l36 : Nat) (v37 : Value) =>
 T.new [.slice none 0 0, .slice none 0 0, .slice none 0 0, .slice none 0 0] 28 <| fun (a38 : Addr) =>
 T.stores a38 [.slice p25 l26 l27, .slice p28 l29 l30, .slice p31 l32 l33, .slice p34 l35 l36] <|
 cond (n4 == (0 : Int))
  (T.sem Tryz.prog (convert 22 9 (.slice p1 l2 l3)) false [(false, [.string])] <| fun (s39 : ByteArray) =>
  cond ((ByteArray.toList s39) == [({ toBitVec := 83#8 }), ({ toBitVec := 80#8 }), ({ toBitVec := 65#8 }), ({ toBitVec := 78#8 }), ({ toBitVec := 1#8 }), ({ toBitVec := 0#8 }), ({ toBitVec := 0#8 }), ({ toBitVec := 0#8 }), ({ toBitVec := 0#8 }), ({ toBitVec := 0#8 }), ({ toBitVec := 0#8 }), ({ toBitVec := 0#8 }), ({ toBitVec := 0#8 })])
   (T.sem Tryz.prog (Sx.cmpS (BinOp.eql) 30 (Operand.tmp 31) (Operand.const Value.nilIface) v17 .nilIface) false [(false, [.bool])] <| fun (b40 : Bool) =>
   cond b40
    (T.loads a18 [.slice 102, .slice 102, .slice 78, .slice 9] <| fun (p41 : Option Addr) (l42 : Nat) (l43 : Nat) (p44 : Option Addr) (l45 : Nat) (l46 : Nat) (p47 : Option Addr) (l48 : Nat) (l49 : Nat) (p50 : Option Addr) (l51 : Nat) (l52 : Nat) =>
    T.call Tryz.prog 9 [.agg #[.slice p41 l42 l43, .slice p44 l45 l46, .slice p47 l48 l49, .slice p50 l51 l52], .agg #[.slice none 0 0, .slice none 0 0, .slice none 0 0, .slice none 0 0]] false [(false, [.bool])] <| fun (b53 : Bool) =>
    cond b53
     (T.call Tryz.prog 8 [v37, .agg #[.int .i64 (3 : Int), .int .i64 (15 : Int)]] false [(false, [.bool])] <| fun (b54 : Bool) =>
     T.ret (.bool b54))
     (T.ret (.bool false)))
    (T.ret (.bool false)))
   (T.ret (.bool false)))
  (T.ret (.bool false))
theorem t_spandrellaw10_known_eq  : xfun Tryz.prog [] Tryz.f11 [] = t_spandrellaw10_known  := by kernel_rfl

end Go.Sx
