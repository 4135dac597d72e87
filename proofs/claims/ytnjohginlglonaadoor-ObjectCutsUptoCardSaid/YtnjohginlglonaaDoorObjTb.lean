/- Trees of functions, each checked by the kernel against the code. No condition. -/
import Derived.Test.YtnjohginlglonaaDoorSxF
import Derived.Test.YtnjohginlglonaaDoorProg
import Derived.KernelRfl
set_option linter.unusedVariables false
set_option linter.unusedSimpArgs false
set_option linter.deprecated false
set_option maxRecDepth 100000
namespace Go.Sx
open Go.Proofs
/-- The tree of 8. -/
def t_spandrellaw10_refused (v0 : Value) (n1 : Int) (n1_1 : Int) : T :=
 T.new [.int .i64 n1, .int .i64 n1_1] 37 <| fun (a2 : Addr) =>
 T.loads (a2.add 1) [.int .i64] <| fun (n3 : Int) =>
 cond (n3 == (0 : Int))
  (T.sem Tryd.prog (Sx.cmpS (BinOp.eql) 32 (Operand.tmp 10) (Operand.const Value.nilIface) v0 .nilIface) false [(false, [.bool])] <| fun (b4 : Bool) =>
  T.ret (.bool b4))
  (T.sem Tryd.prog (Instr.typeAssert v0 32 60 true) true [(false, [.pointer 62]), (false, [.bool])] <| fun (p4 : Option Addr) (b5 : Bool) =>
  cond b5
   (cond (!(/-?Option.isSome.match_1-/ match p4 with
   | some val => false
   | none => true))
    (T.osome p4 <| fun (a6 : Addr) =>
    T.loads a6 [.int .i64] <| fun (n7 : Int) =>
    T.loads a2 [.int .i64] <| fun (n8 : Int) =>
    cond (n7 == n8)
     (T.osome p4 <| fun (a9 : Addr) =>
     T.loads (a9.add 1) [.int .i64] <| fun (n10 : Int) =>
     T.loads (a2.add 1) [.int .i64] <| fun (n11 : Int) =>
     cond (n10 == n11)
      (T.call Tryd.prog 20 [.pointer p4] false [(false, [.string])] <| fun (s12 : ByteArray) =>
      T.stable [((a2.add 1), [.int .i64 n11]), ((a9.add 1), [.int .i64 n10]), (a2, [.int .i64 n8]), (a6, [.int .i64 n7])] <|
      cond (!((ByteArray.toList s12) == []))
       (T.osome p4 <| fun (a13 : Addr) =>
       T.loads (a13.add 1) [.int .i64] <| fun (n14 : Int) =>
       T.call Tryd.prog 22 [.pointer p4] false [(false, [.interface #[("Error", 69)]])] <| fun (v15 : Value) =>
       T.stable [((a13.add 1), [.int .i64 n14]), ((a2.add 1), [.int .i64 n11]), ((a9.add 1), [.int .i64 n10]), (a2, [.int .i64 n8]), (a6, [.int .i64 n7])] <|
       T.call Tryd.prog 21 [v15, .iface 23 (.int .i64 n14)] false [(false, [.bool])] <| fun (b16 : Bool) =>
       T.stable [((a13.add 1), [.int .i64 n14]), ((a2.add 1), [.int .i64 n11]), ((a9.add 1), [.int .i64 n10]), (a2, [.int .i64 n8]), (a6, [.int .i64 n7])] <|
       cond b16
        (T.loads (a2.add 1) [.int .i64] <| fun (n17 : Int) =>
        T.call Tryd.prog 23 [v0, .iface 23 (.int .i64 n17)] false [(false, [.bool])] <| fun (b18 : Bool) =>
        T.stable [((a2.add 1), [.int .i64 n17]), ((a13.add 1), [.int .i64 n14]), ((a2.add 1), [.int .i64 n11]), ((a9.add 1), [.int .i64 n10]), (a2, [.int .i64 n8]), (a6, [.int .i64 n7])] <|
        T.ret (.bool b18))
        (T.ret (.bool false)))
       (T.ret (.bool false)))
      (T.ret (.bool false)))
     (T.ret (.bool false)))
    (T.ret (.bool false)))
   (T.ret (.bool false)))
theorem t_spandrellaw10_refused_eq (v0 : Value) (n1 : Int) (n1_1 : Int) : xfun Tryd.prog [] Tryd.f8 [v0, .agg #[.int .i64 n1, .int .i64 n1_1]] = t_spandrellaw10_refused v0 n1 n1_1 := by kernel_rfl

/-- The tree of 9. -/
def t_spandrellaw10_known  : T :=
 T.call Tryd.prog 6 [.agg #[.slice none 0 0, .slice none 0 0, .slice none 0 0, .slice none 0 0]] true [(false, [.slice 5]), (false, [.int .i64])] <| fun (p1 : Option Addr) (l2 : Nat) (l3 : Nat) (n4 : Int) =>
 T.call Tryd.prog 7 [.slice p1 l2 l3] true [(true, [.slice 79, .slice 79, .slice 57, .slice 9]), (false, [.interface #[("Error", 69)]])] <| fun (p5 : Option Addr) (l6 : Nat) (l7 : Nat) (p8 : Option Addr) (l9 : Nat) (l10 : Nat) (p11 : Option Addr) (l12 : Nat) (l13 : Nat) (p14 : Option Addr) (l15 : Nat) (l16 : Nat) (v17 : Value) =>
 T.new [.slice none 0 0, .slice none 0 0, .slice none 0 0, .slice none 0 0] 30 <| fun (a18 : Addr) =>
 T.stores a18 [.slice p5 l6 l7, .slice p8 l9 l10, .slice p11 l12 l13, .slice p14 l15 l16] <|
 T.sem Tryd.prog (Instr.buildSlice 22 4 #[(0, .int .u8 (83 : Int)), (1, .int .u8 (80 : Int)), (2, .int .u8 (65 : Int)), (3, .int .u8 (77 : Int))]) false [(false, [.slice 0])] <| fun (p19 : Option Addr) (l20 : Nat) (l21 : Nat) =>
 T.sem Tryd.prog (convert 22 22 (.slice p19 l20 l21)) false [(false, [.slice 0])] <| fun (p22 : Option Addr) (l23 : Nat) (l24 : Nat) =>
 T.call Tryd.prog 7 [.slice p22 l23 l24] true [(true, [.slice 79, .slice 79, .slice 57, .slice 9]), (false, [.interface #[("Error", 69)]])] <| fun (p25 : Option Addr) (l26 : Nat) (l27 : Nat) (p28 : Option Addr) (l29 : Nat) (l30 : Nat) (p31 : Option Addr) (l32 : Nat) (l33 : Nat) (p34 : Option Addr) (l35 : Nat) (l36 : Nat) (v37 : Value) =>
 T.new [.slice none 0 0, .slice none 0 0, .slice none 0 0, .slice none 0 0] 30 <| fun (a38 : Addr) =>
 T.stores a38 [.slice p25 l26 l27, .slice p28 l29 l30, .slice p31 l32 l33, .slice p34 l35 l36] <|
 cond (n4 == (0 : Int))
  (T.sem Tryd.prog (convert 22 9 (.slice p1 l2 l3)) false [(false, [.string])] <| fun (s39 : ByteArray) =>
  cond ((ByteArray.toList s39) == [({ toBitVec := 83#8 }), ({ toBitVec := 80#8 }), ({ toBitVec := 65#8 }), ({ toBitVec := 78#8 }), ({ toBitVec := 1#8 }), ({ toBitVec := 0#8 }), ({ toBitVec := 0#8 }), ({ toBitVec := 0#8 }), ({ toBitVec := 0#8 }), ({ toBitVec := 0#8 }), ({ toBitVec := 0#8 }), ({ toBitVec := 0#8 }), ({ toBitVec := 0#8 })])
   (T.sem Tryd.prog (Sx.cmpS (BinOp.eql) 32 (Operand.tmp 31) (Operand.const Value.nilIface) v17 .nilIface) false [(false, [.bool])] <| fun (b40 : Bool) =>
   cond b40
    (T.loads a18 [.slice 79, .slice 79, .slice 57, .slice 9] <| fun (p41 : Option Addr) (l42 : Nat) (l43 : Nat) (p44 : Option Addr) (l45 : Nat) (l46 : Nat) (p47 : Option Addr) (l48 : Nat) (l49 : Nat) (p50 : Option Addr) (l51 : Nat) (l52 : Nat) =>
    T.call Tryd.prog 11 [.agg #[.slice p41 l42 l43, .slice p44 l45 l46, .slice p47 l48 l49, .slice p50 l51 l52], .agg #[.slice none 0 0, .slice none 0 0, .slice none 0 0, .slice none 0 0]] false [(false, [.bool])] <| fun (b53 : Bool) =>
    cond b53
     (T.call Tryd.prog 8 [v37, .agg #[.int .i64 (3 : Int), .int .i64 (15 : Int)]] false [(false, [.bool])] <| fun (b54 : Bool) =>
     T.ret (.bool b54))
     (T.ret (.bool false)))
    (T.ret (.bool false)))
   (T.ret (.bool false)))
  (T.ret (.bool false))
theorem t_spandrellaw10_known_eq  : xfun Tryd.prog [] Tryd.f9 [] = t_spandrellaw10_known  := by kernel_rfl

/-- The tree of 3. -/
def t_spandrellaw10_ObjectNumbers  : T :=
 T.call Tryd.prog 6 [.agg #[.slice none 0 0, .slice none 0 0, .slice none 0 0, .slice none 0 0]] true [(false, [.slice 5]), (false, [.int .i64])] <| fun (p1 : Option Addr) (l2 : Nat) (l3 : Nat) (n4 : Int) =>
 cond ((l2 : Int) != (13 : Int))
  (T.ret (.bool false))
  (T.need (((0 : Int) ≤ (0 : Int)) ∧ (((0 : Int) ≤ (12 : Int)) ∧ ((12 : Int) ≤ (l3 : Int)))) <|
  T.call Tryd.prog 7 [.slice (if (l3 = 0) then p1 else (Option.map (fun a => Addr.add a 0) p1)) ((Int.toNat (12 : Int)) - 0) (l3 - 0)] true [(true, [.slice 79, .slice 79, .slice 57, .slice 9]), (false, [.interface #[("Error", 69)]])] <| fun (p5 : Option Addr) (l6 : Nat) (l7 : Nat) (p8 : Option Addr) (l9 : Nat) (l10 : Nat) (p11 : Option Addr) (l12 : Nat) (l13 : Nat) (p14 : Option Addr) (l15 : Nat) (l16 : Nat) (v17 : Value) =>
  T.new [.slice none 0 0, .slice none 0 0, .slice none 0 0, .slice none 0 0] 30 <| fun (a18 : Addr) =>
  T.stores a18 [.slice p5 l6 l7, .slice p8 l9 l10, .slice p11 l12 l13, .slice p14 l15 l16] <|
  T.sem Tryd.prog (Instr.buildSlice 22 0 #[]) false [(false, [.slice 0])] <| fun (p19 : Option Addr) (l20 : Nat) (l21 : Nat) =>
  T.sem Tryd.prog (Builtin.append_ #[22, 22] 22 #[.slice p19 l20 l21, .slice p1 l2 l3]) false [(false, [.slice 0])] <| fun (p22 : Option Addr) (l23 : Nat) (l24 : Nat) =>
  T.sem Tryd.prog (Instr.buildSlice 22 1 #[(0, .int .u8 (0 : Int))]) false [(false, [.slice 0])] <| fun (p25 : Option Addr) (l26 : Nat) (l27 : Nat) =>
  T.sem Tryd.prog (Builtin.append_ #[22, 22] 22 #[.slice p22 l23 l24, .slice p25 l26 l27]) false [(false, [.slice 0])] <| fun (p28 : Option Addr) (l29 : Nat) (l30 : Nat) =>
  T.call Tryd.prog 7 [.slice p28 l29 l30] true [(true, [.slice 79, .slice 79, .slice 57, .slice 9]), (false, [.interface #[("Error", 69)]])] <| fun (p31 : Option Addr) (l32 : Nat) (l33 : Nat) (p34 : Option Addr) (l35 : Nat) (l36 : Nat) (p37 : Option Addr) (l38 : Nat) (l39 : Nat) (p40 : Option Addr) (l41 : Nat) (l42 : Nat) (v43 : Value) =>
  T.new [.slice none 0 0, .slice none 0 0, .slice none 0 0, .slice none 0 0] 30 <| fun (a44 : Addr) =>
  T.stores a44 [.slice p31 l32 l33, .slice p34 l35 l36, .slice p37 l38 l39, .slice p40 l41 l42] <|
  T.call Tryd.prog 7 [.slice none 0 0] true [(true, [.slice 79, .slice 79, .slice 57, .slice 9]), (false, [.interface #[("Error", 69)]])] <| fun (p45 : Option Addr) (l46 : Nat) (l47 : Nat) (p48 : Option Addr) (l49 : Nat) (l50 : Nat) (p51 : Option Addr) (l52 : Nat) (l53 : Nat) (p54 : Option Addr) (l55 : Nat) (l56 : Nat) (v57 : Value) =>
  T.new [.slice none 0 0, .slice none 0 0, .slice none 0 0, .slice none 0 0] 30 <| fun (a58 : Addr) =>
  T.stores a58 [.slice p45 l46 l47, .slice p48 l49 l50, .slice p51 l52 l53, .slice p54 l55 l56] <|
  T.sem Tryd.prog (Instr.buildSlice 28 1 #[(0, .string ⟨#[97]⟩)]) false [(false, [.slice 0])] <| fun (p59 : Option Addr) (l60 : Nat) (l61 : Nat) =>
  T.call Tryd.prog 6 [.agg #[.slice none 0 0, .slice none 0 0, .slice none 0 0, .slice p59 l60 l61]] true [(false, [.slice 5]), (false, [.int .i64])] <| fun (p62 : Option Addr) (l63 : Nat) (l64 : Nat) (n65 : Int) =>
  T.sem Tryd.prog (Instr.buildSlice 22 8 #[(0, .int .u8 (83 : Int)), (1, .int .u8 (80 : Int)), (2, .int .u8 (65 : Int)), (3, .int .u8 (78 : Int)), (4, .int .u8 (1 : Int)), (5, .int .u8 (1 : Int)), (6, .int .u8 (0 : Int)), (7, .int .u8 (9 : Int))]) false [(false, [.slice 0])] <| fun (p66 : Option Addr) (l67 : Nat) (l68 : Nat) =>
  T.sem Tryd.prog (convert 22 22 (.slice p66 l67 l68)) false [(false, [.slice 0])] <| fun (p69 : Option Addr) (l70 : Nat) (l71 : Nat) =>
  T.call Tryd.prog 7 [.slice p69 l70 l71] true [(true, [.slice 79, .slice 79, .slice 57, .slice 9]), (false, [.interface #[("Error", 69)]])] <| fun (p72 : Option Addr) (l73 : Nat) (l74 : Nat) (p75 : Option Addr) (l76 : Nat) (l77 : Nat) (p78 : Option Addr) (l79 : Nat) (l80 : Nat) (p81 : Option Addr) (l82 : Nat) (l83 : Nat) (v84 : Value) =>
  T.new [.slice none 0 0, .slice none 0 0, .slice none 0 0, .slice none 0 0] 30 <| fun (a85 : Addr) =>
  T.stores a85 [.slice p72 l73 l74, .slice p75 l76 l77, .slice p78 l79 l80, .slice p81 l82 l83] <|
  T.sem Tryd.prog (Instr.buildSlice 22 7 #[(0, .int .u8 (83 : Int)), (1, .int .u8 (80 : Int)), (2, .int .u8 (65 : Int)), (3, .int .u8 (78 : Int)), (4, .int .u8 (1 : Int)), (5, .int .u8 (1 : Int)), (6, .int .u8 (32 : Int))]) false [(false, [.slice 0])] <| fun (p86 : Option Addr) (l87 : Nat) (l88 : Nat) =>
  T.sem Tryd.prog (convert 22 22 (.slice p86 l87 l88)) false [(false, [.slice 0])] <| fun (p89 : Option Addr) (l90 : Nat) (l91 : Nat) =>
  T.call Tryd.prog 7 [.slice p89 l90 l91] true [(true, [.slice 79, .slice 79, .slice 57, .slice 9]), (false, [.interface #[("Error", 69)]])] <| fun (p92 : Option Addr) (l93 : Nat) (l94 : Nat) (p95 : Option Addr) (l96 : Nat) (l97 : Nat) (p98 : Option Addr) (l99 : Nat) (l100 : Nat) (p101 : Option Addr) (l102 : Nat) (l103 : Nat) (v104 : Value) =>
  T.new [.slice none 0 0, .slice none 0 0, .slice none 0 0, .slice none 0 0] 30 <| fun (a105 : Addr) =>
  T.stores a105 [.slice p92 l93 l94, .slice p95 l96 l97, .slice p98 l99 l100, .slice p101 l102 l103] <|
  T.sem Tryd.prog (Instr.makeSlice 22 (.int .i64 (1048577 : Int)) (.int .i64 (1048577 : Int))) false [(false, [.slice 0])] <| fun (p106 : Option Addr) (l107 : Nat) (l108 : Nat) =>
  T.call Tryd.prog 7 [.slice p106 l107 l108] true [(true, [.slice 79, .slice 79, .slice 57, .slice 9]), (false, [.interface #[("Error", 69)]])] <| fun (p109 : Option Addr) (l110 : Nat) (l111 : Nat) (p112 : Option Addr) (l113 : Nat) (l114 : Nat) (p115 : Option Addr) (l116 : Nat) (l117 : Nat) (p118 : Option Addr) (l119 : Nat) (l120 : Nat) (v121 : Value) =>
  T.new [.slice none 0 0, .slice none 0 0, .slice none 0 0, .slice none 0 0] 30 <| fun (a122 : Addr) =>
  T.stores a122 [.slice p109 l110 l111, .slice p112 l113 l114, .slice p115 l116 l117, .slice p118 l119 l120] <|
  T.sem Tryd.prog (Instr.buildSlice 22 9 #[(0, .int .u8 (83 : Int)), (1, .int .u8 (80 : Int)), (2, .int .u8 (65 : Int)), (3, .int .u8 (78 : Int)), (4, .int .u8 (1 : Int)), (5, .int .u8 (1 : Int)), (6, .int .u8 (0 : Int)), (7, .int .u8 (2 : Int)), (8, .int .u8 (0 : Int))]) false [(false, [.slice 0])] <| fun (p123 : Option Addr) (l124 : Nat) (l125 : Nat) =>
  T.sem Tryd.prog (convert 22 22 (.slice p123 l124 l125)) false [(false, [.slice 0])] <| fun (p126 : Option Addr) (l127 : Nat) (l128 : Nat) =>
  T.call Tryd.prog 7 [.slice p126 l127 l128] true [(true, [.slice 79, .slice 79, .slice 57, .slice 9]), (false, [.interface #[("Error", 69)]])] <| fun (p129 : Option Addr) (l130 : Nat) (l131 : Nat) (p132 : Option Addr) (l133 : Nat) (l134 : Nat) (p135 : Option Addr) (l136 : Nat) (l137 : Nat) (p138 : Option Addr) (l139 : Nat) (l140 : Nat) (v141 : Value) =>
  T.new [.slice none 0 0, .slice none 0 0, .slice none 0 0, .slice none 0 0] 30 <| fun (a142 : Addr) =>
  T.stores a142 [.slice p129 l130 l131, .slice p132 l133 l134, .slice p135 l136 l137, .slice p138 l139 l140] <|
  T.call Tryd.prog 8 [v17, .agg #[.int .i64 (12 : Int), .int .i64 (10 : Int)]] false [(false, [.bool])] <| fun (b143 : Bool) =>
  cond b143
   (T.call Tryd.prog 8 [v43, .agg #[.int .i64 (13 : Int), .int .i64 (14 : Int)]] false [(false, [.bool])] <| fun (b144 : Bool) =>
   cond b144
    (T.call Tryd.prog 8 [v57, .agg #[.int .i64 (0 : Int), .int .i64 (15 : Int)]] false [(false, [.bool])] <| fun (b145 : Bool) =>
    cond b145
     (cond (n65 == (31 : Int))
      (T.call Tryd.prog 8 [v84, .agg #[.int .i64 (7 : Int), .int .i64 (31 : Int)]] false [(false, [.bool])] <| fun (b146 : Bool) =>
      cond b146
       (T.call Tryd.prog 8 [v104, .agg #[.int .i64 (5 : Int), .int .i64 (4 : Int)]] false [(false, [.bool])] <| fun (b147 : Bool) =>
       cond b147
        (T.call Tryd.prog 8 [v121, .agg #[.int .i64 (0 : Int), .int .i64 (3 : Int)]] false [(false, [.bool])] <| fun (b148 : Bool) =>
        cond b148
         (T.call Tryd.prog 8 [v141, .agg #[.int .i64 (9 : Int), .int .i64 (10 : Int)]] false [(false, [.bool])] <| fun (b149 : Bool) =>
         cond b149
          (T.call Tryd.prog 9 [] false [(false, [.bool])] <| fun (b150 : Bool) =>
          T.ret (.bool b150))
          (T.ret (.bool false)))
         (T.ret (.bool false)))
        (T.ret (.bool false)))
       (T.ret (.bool false)))
      (T.ret (.bool false)))
     (T.ret (.bool false)))
    (T.ret (.bool false)))
   (T.ret (.bool false)))
theorem t_spandrellaw10_ObjectNumbers_eq  : xfun Tryd.prog [] Tryd.f3 [] = t_spandrellaw10_ObjectNumbers  := by kernel_rfl

/-- The tree of 4. -/
def t_spandrellaw10_ObjectBack (pp00 : Option Addr) (ll00 cc00 : Nat) (pp01 : Option Addr) (ll01 cc01 : Nat) (pp02 : Option Addr) (ll02 cc02 : Nat) (pp03 : Option Addr) (ll03 cc03 : Nat) (pp10 : Option Addr) (ll10 cc10 : Nat) : T :=
 T.new [.slice pp00 ll00 cc00, .slice pp01 ll01 cc01, .slice pp02 ll02 cc02, .slice pp03 ll03 cc03] 30 <| fun (a2 : Addr) =>
 T.loads a2 [.slice 79, .slice 79, .slice 57, .slice 9] <| fun (p3 : Option Addr) (l4 : Nat) (l5 : Nat) (p6 : Option Addr) (l7 : Nat) (l8 : Nat) (p9 : Option Addr) (l10 : Nat) (l11 : Nat) (p12 : Option Addr) (l13 : Nat) (l14 : Nat) =>
 T.sem Tryd.prog (Instr.buildSlice 40 1 #[(0, .agg #[.slice p3 l4 l5, .slice p6 l7 l8, .slice p9 l10 l11, .slice p12 l13 l14])]) false [(false, [.slice 0])] <| fun (p15 : Option Addr) (l16 : Nat) (l17 : Nat) =>
 T.call Tryd.prog 10 [.slice p15 l16 l17] false [(false, [.bool])] <| fun (b18 : Bool) =>
 cond b18
  (T.call Tryd.prog 9 [] false [(false, [.bool])] <| fun (b19 : Bool) =>
  T.ret (.bool b19))
  (cond (decide ((ll10 : Int) > (3000 : Int)))
   (T.call Tryd.prog 9 [] false [(false, [.bool])] <| fun (b19 : Bool) =>
   T.ret (.bool b19))
   (T.loads a2 [.slice 79, .slice 79, .slice 57, .slice 9] <| fun (p19 : Option Addr) (l20 : Nat) (l21 : Nat) (p22 : Option Addr) (l23 : Nat) (l24 : Nat) (p25 : Option Addr) (l26 : Nat) (l27 : Nat) (p28 : Option Addr) (l29 : Nat) (l30 : Nat) =>
   T.call Tryd.prog 6 [.agg #[.slice p19 l20 l21, .slice p22 l23 l24, .slice p25 l26 l27, .slice p28 l29 l30]] true [(false, [.slice 5]), (false, [.int .i64])] <| fun (p31 : Option Addr) (l32 : Nat) (l33 : Nat) (n34 : Int) =>
   cond (n34 == (0 : Int))
    (T.call Tryd.prog 7 [.slice p31 l32 l33] true [(true, [.slice 79, .slice 79, .slice 57, .slice 9]), (false, [.interface #[("Error", 69)]])] <| fun (p35 : Option Addr) (l36 : Nat) (l37 : Nat) (p38 : Option Addr) (l39 : Nat) (l40 : Nat) (p41 : Option Addr) (l42 : Nat) (l43 : Nat) (p44 : Option Addr) (l45 : Nat) (l46 : Nat) (v47 : Value) =>
    T.new [.slice none 0 0, .slice none 0 0, .slice none 0 0, .slice none 0 0] 30 <| fun (a48 : Addr) =>
    T.stores a48 [.slice p35 l36 l37, .slice p38 l39 l40, .slice p41 l42 l43, .slice p44 l45 l46] <|
    T.sem Tryd.prog (Sx.cmpS (BinOp.neq) 32 (Operand.tmp 34) (Operand.const Value.nilIface) v47 .nilIface) false [(false, [.bool])] <| fun (b49 : Bool) =>
    cond b49
     (T.ret (.bool false))
     (T.loads a2 [.slice 79, .slice 79, .slice 57, .slice 9] <| fun (p50 : Option Addr) (l51 : Nat) (l52 : Nat) (p53 : Option Addr) (l54 : Nat) (l55 : Nat) (p56 : Option Addr) (l57 : Nat) (l58 : Nat) (p59 : Option Addr) (l60 : Nat) (l61 : Nat) =>
     T.loads a48 [.slice 79, .slice 79, .slice 57, .slice 9] <| fun (p62 : Option Addr) (l63 : Nat) (l64 : Nat) (p65 : Option Addr) (l66 : Nat) (l67 : Nat) (p68 : Option Addr) (l69 : Nat) (l70 : Nat) (p71 : Option Addr) (l72 : Nat) (l73 : Nat) =>
     T.call Tryd.prog 11 [.agg #[.slice p50 l51 l52, .slice p53 l54 l55, .slice p56 l57 l58, .slice p59 l60 l61], .agg #[.slice p62 l63 l64, .slice p65 l66 l67, .slice p68 l69 l70, .slice p71 l72 l73]] false [(false, [.bool])] <| fun (b74 : Bool) =>
     cond (!b74)
      (T.ret (.bool false))
      (T.call Tryd.prog 7 [.slice pp10 ll10 cc10] true [(true, [.slice 79, .slice 79, .slice 57, .slice 9]), (false, [.interface #[("Error", 69)]])] <| fun (p75 : Option Addr) (l76 : Nat) (l77 : Nat) (p78 : Option Addr) (l79 : Nat) (l80 : Nat) (p81 : Option Addr) (l82 : Nat) (l83 : Nat) (p84 : Option Addr) (l85 : Nat) (l86 : Nat) (v87 : Value) =>
      T.new [.slice none 0 0, .slice none 0 0, .slice none 0 0, .slice none 0 0] 30 <| fun (a88 : Addr) =>
      T.stores a88 [.slice p75 l76 l77, .slice p78 l79 l80, .slice p81 l82 l83, .slice p84 l85 l86] <|
      T.sem Tryd.prog (Sx.cmpS (BinOp.neq) 32 (Operand.tmp 47) (Operand.const Value.nilIface) v87 .nilIface) false [(false, [.bool])] <| fun (b89 : Bool) =>
      cond b89
       (T.loads a88 [.slice 79, .slice 79, .slice 57, .slice 9] <| fun (p90 : Option Addr) (l91 : Nat) (l92 : Nat) (p93 : Option Addr) (l94 : Nat) (l95 : Nat) (p96 : Option Addr) (l97 : Nat) (l98 : Nat) (p99 : Option Addr) (l100 : Nat) (l101 : Nat) =>
       T.call Tryd.prog 11 [.agg #[.slice p90 l91 l92, .slice p93 l94 l95, .slice p96 l97 l98, .slice p99 l100 l101], .agg #[.slice none 0 0, .slice none 0 0, .slice none 0 0, .slice none 0 0]] false [(false, [.bool])] <| fun (b102 : Bool) =>
       cond b102
        (T.call Tryd.prog 9 [] false [(false, [.bool])] <| fun (b103 : Bool) =>
        T.ret (.bool b103))
        (T.ret (.bool false)))
       (T.loads a88 [.slice 79, .slice 79, .slice 57, .slice 9] <| fun (p90 : Option Addr) (l91 : Nat) (l92 : Nat) (p93 : Option Addr) (l94 : Nat) (l95 : Nat) (p96 : Option Addr) (l97 : Nat) (l98 : Nat) (p99 : Option Addr) (l100 : Nat) (l101 : Nat) =>
       T.call Tryd.prog 6 [.agg #[.slice p90 l91 l92, .slice p93 l94 l95, .slice p96 l97 l98, .slice p99 l100 l101]] true [(false, [.slice 5]), (false, [.int .i64])] <| fun (p102 : Option Addr) (l103 : Nat) (l104 : Nat) (n105 : Int) =>
       cond (n105 == (0 : Int))
        (T.call Tryd.prog 12 [.slice p102 l103 l104, .slice pp10 ll10 cc10] false [(false, [.bool])] <| fun (b106 : Bool) =>
        cond b106
         (T.call Tryd.prog 9 [] false [(false, [.bool])] <| fun (b107 : Bool) =>
         T.ret (.bool b107))
         (T.ret (.bool false)))
        (T.ret (.bool false))))))
    (T.call Tryd.prog 7 [.slice pp10 ll10 cc10] true [(true, [.slice 79, .slice 79, .slice 57, .slice 9]), (false, [.interface #[("Error", 69)]])] <| fun (p35 : Option Addr) (l36 : Nat) (l37 : Nat) (p38 : Option Addr) (l39 : Nat) (l40 : Nat) (p41 : Option Addr) (l42 : Nat) (l43 : Nat) (p44 : Option Addr) (l45 : Nat) (l46 : Nat) (v47 : Value) =>
    T.new [.slice none 0 0, .slice none 0 0, .slice none 0 0, .slice none 0 0] 30 <| fun (a48 : Addr) =>
    T.stores a48 [.slice p35 l36 l37, .slice p38 l39 l40, .slice p41 l42 l43, .slice p44 l45 l46] <|
    T.sem Tryd.prog (Sx.cmpS (BinOp.neq) 32 (Operand.tmp 47) (Operand.const Value.nilIface) v47 .nilIface) false [(false, [.bool])] <| fun (b49 : Bool) =>
    cond b49
     (T.loads a48 [.slice 79, .slice 79, .slice 57, .slice 9] <| fun (p50 : Option Addr) (l51 : Nat) (l52 : Nat) (p53 : Option Addr) (l54 : Nat) (l55 : Nat) (p56 : Option Addr) (l57 : Nat) (l58 : Nat) (p59 : Option Addr) (l60 : Nat) (l61 : Nat) =>
     T.call Tryd.prog 11 [.agg #[.slice p50 l51 l52, .slice p53 l54 l55, .slice p56 l57 l58, .slice p59 l60 l61], .agg #[.slice none 0 0, .slice none 0 0, .slice none 0 0, .slice none 0 0]] false [(false, [.bool])] <| fun (b62 : Bool) =>
     cond b62
      (T.call Tryd.prog 9 [] false [(false, [.bool])] <| fun (b63 : Bool) =>
      T.ret (.bool b63))
      (T.ret (.bool false)))
     (T.loads a48 [.slice 79, .slice 79, .slice 57, .slice 9] <| fun (p50 : Option Addr) (l51 : Nat) (l52 : Nat) (p53 : Option Addr) (l54 : Nat) (l55 : Nat) (p56 : Option Addr) (l57 : Nat) (l58 : Nat) (p59 : Option Addr) (l60 : Nat) (l61 : Nat) =>
     T.call Tryd.prog 6 [.agg #[.slice p50 l51 l52, .slice p53 l54 l55, .slice p56 l57 l58, .slice p59 l60 l61]] true [(false, [.slice 5]), (false, [.int .i64])] <| fun (p62 : Option Addr) (l63 : Nat) (l64 : Nat) (n65 : Int) =>
     cond (n65 == (0 : Int))
      (T.call Tryd.prog 12 [.slice p62 l63 l64, .slice pp10 ll10 cc10] false [(false, [.bool])] <| fun (b66 : Bool) =>
      cond b66
       (T.call Tryd.prog 9 [] false [(false, [.bool])] <| fun (b67 : Bool) =>
       T.ret (.bool b67))
       (T.ret (.bool false)))
      (T.ret (.bool false))))))
theorem t_spandrellaw10_ObjectBack_eq (pp00 : Option Addr) (ll00 cc00 : Nat) (pp01 : Option Addr) (ll01 cc01 : Nat) (pp02 : Option Addr) (ll02 cc02 : Nat) (pp03 : Option Addr) (ll03 cc03 : Nat) (pp10 : Option Addr) (ll10 cc10 : Nat) : xfun Tryd.prog [] Tryd.f4 [.agg #[.slice pp00 ll00 cc00, .slice pp01 ll01 cc01, .slice pp02 ll02 cc02, .slice pp03 ll03 cc03], .slice pp10 ll10 cc10] = t_spandrellaw10_ObjectBack pp00 ll00 cc00 pp01 ll01 cc01 pp02 ll02 cc02 pp03 ll03 cc03 pp10 ll10 cc10 := by kernel_rfl

/-- The tree of 5. -/
def t_spandrellaw10_ObjectCuts (pp00 : Option Addr) (ll00 cc00 : Nat) (pp01 : Option Addr) (ll01 cc01 : Nat) (pp02 : Option Addr) (ll02 cc02 : Nat) (pp03 : Option Addr) (ll03 cc03 : Nat) (pp10 : Option Addr) (ll10 cc10 : Nat) (pp11 : Option Addr) (ll11 cc11 : Nat) (pp12 : Option Addr) (ll12 cc12 : Nat) (pp13 : Option Addr) (ll13 cc13 : Nat) (n2 : Int) (pp30 : Option Addr) (ll30 cc30 : Nat) : T :=
 T.new [.slice pp00 ll00 cc00, .slice pp01 ll01 cc01, .slice pp02 ll02 cc02, .slice pp03 ll03 cc03] 30 <| fun (a4 : Addr) =>
 T.new [.slice pp10 ll10 cc10, .slice pp11 ll11 cc11, .slice pp12 ll12 cc12, .slice pp13 ll13 cc13] 30 <| fun (a5 : Addr) =>
 T.loads a4 [.slice 79, .slice 79, .slice 57, .slice 9] <| fun (p6 : Option Addr) (l7 : Nat) (l8 : Nat) (p9 : Option Addr) (l10 : Nat) (l11 : Nat) (p12 : Option Addr) (l13 : Nat) (l14 : Nat) (p15 : Option Addr) (l16 : Nat) (l17 : Nat) =>
 T.loads a5 [.slice 79, .slice 79, .slice 57, .slice 9] <| fun (p18 : Option Addr) (l19 : Nat) (l20 : Nat) (p21 : Option Addr) (l22 : Nat) (l23 : Nat) (p24 : Option Addr) (l25 : Nat) (l26 : Nat) (p27 : Option Addr) (l28 : Nat) (l29 : Nat) =>
 T.sem Tryd.prog (Instr.buildSlice 40 2 #[(0, .agg #[.slice p6 l7 l8, .slice p9 l10 l11, .slice p12 l13 l14, .slice p15 l16 l17]), (1, .agg #[.slice p18 l19 l20, .slice p21 l22 l23, .slice p24 l25 l26, .slice p27 l28 l29])]) false [(false, [.slice 0])] <| fun (p30 : Option Addr) (l31 : Nat) (l32 : Nat) =>
 T.call Tryd.prog 10 [.slice p30 l31 l32] false [(false, [.bool])] <| fun (b33 : Bool) =>
 cond b33
  (T.call Tryd.prog 9 [] false [(false, [.bool])] <| fun (b34 : Bool) =>
  T.ret (.bool b34))
  (T.loads a4 [.slice 79, .slice 79, .slice 57, .slice 9] <| fun (p34 : Option Addr) (l35 : Nat) (l36 : Nat) (p37 : Option Addr) (l38 : Nat) (l39 : Nat) (p40 : Option Addr) (l41 : Nat) (l42 : Nat) (p43 : Option Addr) (l44 : Nat) (l45 : Nat) =>
  T.call Tryd.prog 6 [.agg #[.slice p34 l35 l36, .slice p37 l38 l39, .slice p40 l41 l42, .slice p43 l44 l45]] true [(false, [.slice 5]), (false, [.int .i64])] <| fun (p46 : Option Addr) (l47 : Nat) (l48 : Nat) (n49 : Int) =>
  T.loads a5 [.slice 79, .slice 79, .slice 57, .slice 9] <| fun (p50 : Option Addr) (l51 : Nat) (l52 : Nat) (p53 : Option Addr) (l54 : Nat) (l55 : Nat) (p56 : Option Addr) (l57 : Nat) (l58 : Nat) (p59 : Option Addr) (l60 : Nat) (l61 : Nat) =>
  T.call Tryd.prog 6 [.agg #[.slice p50 l51 l52, .slice p53 l54 l55, .slice p56 l57 l58, .slice p59 l60 l61]] true [(false, [.slice 5]), (false, [.int .i64])] <| fun (p62 : Option Addr) (l63 : Nat) (l64 : Nat) (n65 : Int) =>
  cond (n49 != (0 : Int))
   (T.call Tryd.prog 9 [] false [(false, [.bool])] <| fun (b66 : Bool) =>
   T.ret (.bool b66))
   (cond ((l47 : Int) == (0 : Int))
    (T.ret (.bool false))
    (cond (n65 == (0 : Int))
     (T.loads a4 [.slice 79, .slice 79, .slice 57, .slice 9] <| fun (p66 : Option Addr) (l67 : Nat) (l68 : Nat) (p69 : Option Addr) (l70 : Nat) (l71 : Nat) (p72 : Option Addr) (l73 : Nat) (l74 : Nat) (p75 : Option Addr) (l76 : Nat) (l77 : Nat) =>
     T.loads a5 [.slice 79, .slice 79, .slice 57, .slice 9] <| fun (p78 : Option Addr) (l79 : Nat) (l80 : Nat) (p81 : Option Addr) (l82 : Nat) (l83 : Nat) (p84 : Option Addr) (l85 : Nat) (l86 : Nat) (p87 : Option Addr) (l88 : Nat) (l89 : Nat) =>
     T.call Tryd.prog 11 [.agg #[.slice p66 l67 l68, .slice p69 l70 l71, .slice p72 l73 l74, .slice p75 l76 l77], .agg #[.slice p78 l79 l80, .slice p81 l82 l83, .slice p84 l85 l86, .slice p87 l88 l89]] false [(false, [.bool])] <| fun (b90 : Bool) =>
     T.call Tryd.prog 12 [.slice p46 l47 l48, .slice p62 l63 l64] false [(false, [.bool])] <| fun (b91 : Bool) =>
     cond (!(b90 == b91))
      (T.ret (.bool false))
      (T.call Tryd.prog 13 [.int .i64 n2, .int .i64 (0 : Int), .int .i64 (IntKind.wrap .i64 ((l47 : Int) - (1 : Int)))] false [(false, [.int .i64])] <| fun (n92 : Int) =>
      T.need (((0 : Int) ≤ (0 : Int)) ∧ (((0 : Int) ≤ n92) ∧ (n92 ≤ (l48 : Int)))) <|
      T.call Tryd.prog 7 [.slice (if (l48 = 0) then p46 else (Option.map (fun a => Addr.add a 0) p46)) ((Int.toNat n92) - 0) (l48 - 0)] true [(true, [.slice 79, .slice 79, .slice 57, .slice 9]), (false, [.interface #[("Error", 69)]])] <| fun (p93 : Option Addr) (l94 : Nat) (l95 : Nat) (p96 : Option Addr) (l97 : Nat) (l98 : Nat) (p99 : Option Addr) (l100 : Nat) (l101 : Nat) (p102 : Option Addr) (l103 : Nat) (l104 : Nat) (v105 : Value) =>
      T.new [.slice none 0 0, .slice none 0 0, .slice none 0 0, .slice none 0 0] 30 <| fun (a106 : Addr) =>
      T.stores a106 [.slice p93 l94 l95, .slice p96 l97 l98, .slice p99 l100 l101, .slice p102 l103 l104] <|
      T.sem Tryd.prog (Instr.buildSlice 22 0 #[]) false [(false, [.slice 0])] <| fun (p107 : Option Addr) (l108 : Nat) (l109 : Nat) =>
      T.sem Tryd.prog (Builtin.append_ #[22, 22] 22 #[.slice p107 l108 l109, .slice p46 l47 l48]) false [(false, [.slice 0])] <| fun (p110 : Option Addr) (l111 : Nat) (l112 : Nat) =>
      T.sem Tryd.prog (Builtin.append_ #[22, 22] 22 #[.slice p110 l111 l112, .slice pp30 ll30 cc30]) false [(false, [.slice 0])] <| fun (p113 : Option Addr) (l114 : Nat) (l115 : Nat) =>
      T.call Tryd.prog 7 [.slice p113 l114 l115] true [(true, [.slice 79, .slice 79, .slice 57, .slice 9]), (false, [.interface #[("Error", 69)]])] <| fun (p116 : Option Addr) (l117 : Nat) (l118 : Nat) (p119 : Option Addr) (l120 : Nat) (l121 : Nat) (p122 : Option Addr) (l123 : Nat) (l124 : Nat) (p125 : Option Addr) (l126 : Nat) (l127 : Nat) (v128 : Value) =>
      T.new [.slice none 0 0, .slice none 0 0, .slice none 0 0, .slice none 0 0] 30 <| fun (a129 : Addr) =>
      T.stores a129 [.slice p116 l117 l118, .slice p119 l120 l121, .slice p122 l123 l124, .slice p125 l126 l127] <|
      T.sem Tryd.prog (Sx.cmpS (BinOp.neq) 32 (Operand.tmp 71) (Operand.const Value.nilIface) v105 .nilIface) false [(false, [.bool])] <| fun (b130 : Bool) =>
      cond b130
       (T.sem Tryd.prog (Sx.cmpS (BinOp.eql) 32 (Operand.tmp 74) (Operand.const Value.nilIface) v128 .nilIface) false [(false, [.bool])] <| fun (b131 : Bool) =>
       cond (b131 == ((ll30 : Int) == (0 : Int)))
        (T.call Tryd.prog 9 [] false [(false, [.bool])] <| fun (b132 : Bool) =>
        T.ret (.bool b132))
        (T.ret (.bool false)))
       (T.ret (.bool false))))
     (T.call Tryd.prog 13 [.int .i64 n2, .int .i64 (0 : Int), .int .i64 (IntKind.wrap .i64 ((l47 : Int) - (1 : Int)))] false [(false, [.int .i64])] <| fun (n66 : Int) =>
     T.need (((0 : Int) ≤ (0 : Int)) ∧ (((0 : Int) ≤ n66) ∧ (n66 ≤ (l48 : Int)))) <|
     T.call Tryd.prog 7 [.slice (if (l48 = 0) then p46 else (Option.map (fun a => Addr.add a 0) p46)) ((Int.toNat n66) - 0) (l48 - 0)] true [(true, [.slice 79, .slice 79, .slice 57, .slice 9]), (false, [.interface #[("Error", 69)]])] <| fun (p67 : Option Addr) (l68 : Nat) (l69 : Nat) (p70 : Option Addr) (l71 : Nat) (l72 : Nat) (p73 : Option Addr) (l74 : Nat) (l75 : Nat) (p76 : Option Addr) (l77 : Nat) (l78 : Nat) (v79 : Value) =>
     T.new [.slice none 0 0, .slice none 0 0, .slice none 0 0, .slice none 0 0] 30 <| fun (a80 : Addr) =>
     T.stores a80 [.slice p67 l68 l69, .slice p70 l71 l72, .slice p73 l74 l75, .slice p76 l77 l78] <|
     T.sem Tryd.prog (Instr.buildSlice 22 0 #[]) false [(false, [.slice 0])] <| fun (p81 : Option Addr) (l82 : Nat) (l83 : Nat) =>
     T.sem Tryd.prog (Builtin.append_ #[22, 22] 22 #[.slice p81 l82 l83, .slice p46 l47 l48]) false [(false, [.slice 0])] <| fun (p84 : Option Addr) (l85 : Nat) (l86 : Nat) =>
     T.sem Tryd.prog (Builtin.append_ #[22, 22] 22 #[.slice p84 l85 l86, .slice pp30 ll30 cc30]) false [(false, [.slice 0])] <| fun (p87 : Option Addr) (l88 : Nat) (l89 : Nat) =>
     T.call Tryd.prog 7 [.slice p87 l88 l89] true [(true, [.slice 79, .slice 79, .slice 57, .slice 9]), (false, [.interface #[("Error", 69)]])] <| fun (p90 : Option Addr) (l91 : Nat) (l92 : Nat) (p93 : Option Addr) (l94 : Nat) (l95 : Nat) (p96 : Option Addr) (l97 : Nat) (l98 : Nat) (p99 : Option Addr) (l100 : Nat) (l101 : Nat) (v102 : Value) =>
     T.new [.slice none 0 0, .slice none 0 0, .slice none 0 0, .slice none 0 0] 30 <| fun (a103 : Addr) =>
     T.stores a103 [.slice p90 l91 l92, .slice p93 l94 l95, .slice p96 l97 l98, .slice p99 l100 l101] <|
     T.sem Tryd.prog (Sx.cmpS (BinOp.neq) 32 (Operand.tmp 71) (Operand.const Value.nilIface) v79 .nilIface) false [(false, [.bool])] <| fun (b104 : Bool) =>
     cond b104
      (T.sem Tryd.prog (Sx.cmpS (BinOp.eql) 32 (Operand.tmp 74) (Operand.const Value.nilIface) v102 .nilIface) false [(false, [.bool])] <| fun (b105 : Bool) =>
      cond (b105 == ((ll30 : Int) == (0 : Int)))
       (T.call Tryd.prog 9 [] false [(false, [.bool])] <| fun (b106 : Bool) =>
       T.ret (.bool b106))
       (T.ret (.bool false)))
      (T.ret (.bool false))))))
theorem t_spandrellaw10_ObjectCuts_eq (pp00 : Option Addr) (ll00 cc00 : Nat) (pp01 : Option Addr) (ll01 cc01 : Nat) (pp02 : Option Addr) (ll02 cc02 : Nat) (pp03 : Option Addr) (ll03 cc03 : Nat) (pp10 : Option Addr) (ll10 cc10 : Nat) (pp11 : Option Addr) (ll11 cc11 : Nat) (pp12 : Option Addr) (ll12 cc12 : Nat) (pp13 : Option Addr) (ll13 cc13 : Nat) (n2 : Int) (pp30 : Option Addr) (ll30 cc30 : Nat) : xfun Tryd.prog [] Tryd.f5 [.agg #[.slice pp00 ll00 cc00, .slice pp01 ll01 cc01, .slice pp02 ll02 cc02, .slice pp03 ll03 cc03], .agg #[.slice pp10 ll10 cc10, .slice pp11 ll11 cc11, .slice pp12 ll12 cc12, .slice pp13 ll13 cc13], .int .i64 n2, .slice pp30 ll30 cc30] = t_spandrellaw10_ObjectCuts pp00 ll00 cc00 pp01 ll01 cc01 pp02 ll02 cc02 pp03 ll03 cc03 pp10 ll10 cc10 pp11 ll11 cc11 pp12 ll12 cc12 pp13 ll13 cc13 n2 pp30 ll30 cc30 := by kernel_rfl

end Go.Sx
