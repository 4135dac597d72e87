/- Trees of functions, each checked by the kernel against the code. No condition. -/
import Derived.Test.YtfkjiiapldkoeaaGreatDoorSxF
import Derived.Test.YtfkjiiapldkoeaaGreatDoorProg
import Derived.KernelRfl
set_option linter.unusedVariables false
set_option linter.unusedSimpArgs false
set_option linter.deprecated false
set_option maxRecDepth 100000
namespace Go.Sx
open Go.Proofs
def t_spandrellaw9_known :T :=
 T.call Tryz.prog 10 [.string ⟨#[97, 58, 32, 106, 109, 112, 32, 97]⟩] true [(true, [.slice 96, .slice 96, .slice 99, .slice 9]), (false, [.interface #[("Error", 85)]])] <| fun (p1 : Option Addr) (l2 : Nat) (l3 : Nat) (p4 : Option Addr) (l5 : Nat) (l6 : Nat) (p7 : Option Addr) (l8 : Nat) (l9 : Nat) (p10 : Option Addr) (l11 : Nat) (l12 : Nat) (v13 : Value) =>
 T.new [.slice none 0 0,.slice none 0 0,.slice none 0 0,.slice none 0 0] 27 <| fun a14 =>
 T.stores a14 [.slice p1 l2 l3,.slice p4 l5 l6,.slice p7 l8 l9,.slice p10 l11 l12] <|
 T.sem Tryz.prog (Sx.cmpS (BinOp.eql) 29 (Operand.tmp 7) (Operand.const Value.nilIface) v13 .nilIface) false [(false,[.bool])] <| fun b15 =>
 cond b15
 (T.loads a14 [.slice 96] <| fun p16 l17 l18 =>
 cond ((l17:Int)==(2:Int))
 (T.loads a14 [.slice 96] <| fun p19 l20 l21 =>
 T.need (((0:Int)≤(0:Int))∧((0:Int)<(l20:Int))) <|
 T.osome p19 <| fun a22 =>
 T.loads (a22.add 1) [.string] <| fun s23 =>
 cond ((ByteArray.toList s23)==[({ toBitVec:=97#8 })])
 (T.loads a14 [.slice 96] <| fun p24 l25 l26 =>
 T.need (((0:Int)≤(1:Int))∧((1:Int)<(l25:Int))) <|
 T.osome p24 <| fun a27 =>
 T.loads ((a27.add 10).add 2) [.int .i64] <| fun n28 =>
 cond (n28==(40:Int))
 (T.loads a14 [.slice 96,.slice 96,.slice 99,.slice 9] <| fun p29 l30 l31 p32 l33 l34 p35 l36 l37 p38 l39 l40 =>
 T.call Tryz.prog 21 [.agg #[.slice p29 l30 l31,.slice p32 l33 l34,.slice p35 l36 l37,.slice p38 l39 l40]] false [(false,[.int .i64])] <| fun n41 =>
 cond (n41==(1:Int))
 (T.loads a14 [.slice 96,.slice 96,.slice 99,.slice 9] <| fun p42 l43 l44 p45 l46 l47 p48 l49 l50 p51 l52 l53 =>
 T.call Tryz.prog 18 [.agg #[.slice p42 l43 l44,.slice p45 l46 l47,.slice p48 l49 l50,.slice p51 l52 l53]] false [(false,[.int .i64])] <| fun n54 =>
 cond (n54==(0:Int))
 (T.call Tryz.prog 17 [.string ⟨#[97,58,32,110,111,112,10,97,58,32,110,111,112]⟩,vI 2,vI 22] false [(false,[.bool])] <| fun b55 =>
 T.ret (.bool b55))
 (T.ret (.bool false)))
 (T.ret (.bool false)))
 (T.ret (.bool false)))
 (T.ret (.bool false)))
 (T.ret (.bool false)))
 (T.ret (.bool false))
theorem t_spandrellaw9_known_eq :xfun Tryz.prog [] Tryz.f14 []=t_spandrellaw9_known :=by kernel_rfl
def t_spandrellaw9_says (s0:ByteArray) (n1:Int) (n2:Int):T :=
 T.call Tryz.prog 10 [.string s0] true [(true, [.slice 96, .slice 96, .slice 99, .slice 9]), (false, [.interface #[("Error", 85)]])] <| fun (p3 : Option Addr) (l4 : Nat) (l5 : Nat) (p6 : Option Addr) (l7 : Nat) (l8 : Nat) (p9 : Option Addr) (l10 : Nat) (l11 : Nat) (p12 : Option Addr) (l13 : Nat) (l14 : Nat) (v15 : Value) =>
 T.new [.slice none 0 0,.slice none 0 0,.slice none 0 0,.slice none 0 0] 27 <| fun a16 =>
 T.stores a16 [.slice p3 l4 l5,.slice p6 l7 l8,.slice p9 l10 l11,.slice p12 l13 l14] <|
 T.call Tryz.prog 12 [v15,.agg #[vI n1,vI n2]] false [(false,[.bool])] <| fun b17 =>
 T.ret (.bool b17)
theorem t_spandrellaw9_says_eq (s0:ByteArray) (n1:Int) (n2:Int):xfun Tryz.prog [] Tryz.f17 [.string s0,vI n1,vI n2]=t_spandrellaw9_says s0 n1 n2:=by kernel_rfl
end Go.Sx
