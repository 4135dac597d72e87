/- Trees of functions, each checked by the kernel against the code. No condition. -/
import Derived.Test.YtfkjiiapldkoeaaGreatDoorSxF
import Derived.Test.YtfkjiiapldkoeaaGreatDoorProg
import Derived.KernelRfl
set_option linter.unusedVariables false
set_option linter.unusedSimpArgs false
set_option linter.deprecated false
set_option maxRecDepth 100000
namespace Go.Sx
open Go.Proofs
def iS (a:ByteArray) (b:Int):T :=
 cond (decide ((a.size:Int)>b))
 (T.need (((0:Int)≤(0:Int))∧(((0:Int)≤b)∧(b≤(a.size:Int)))) <|
 T.ret (.string (ByteArray.extract a 0 (Int.toNat b))))
 (T.ret (.string a))
theorem mB (a:ByteArray) (b:Int):aX Tryz.prog [] Tryz.f9 [.string a,vI b]=iS a b:=by kernel_rfl
def gX :T :=
 T.call Tryz.prog 10 [.string ⟨#[97, 58, 32, 106, 109, 112, 32, 97]⟩] true [(true, [.slice 96, .slice 96, .slice 99, .slice 9]), (false, [.interface #[("Error", 85)]])] fun (a : Option Addr) (b : Nat) (c : Nat) (d : Option Addr) (e : Nat) (f : Nat) (g : Option Addr) (h : Nat) (i : Nat) (j : Option Addr) (k : Nat) (l : Nat) (m : Value) =>
 T.new [.slice none 0 0,.slice none 0 0,.slice none 0 0,.slice none 0 0] 27 fun n =>
 T.ap n [.slice a b c,.slice d e f,.slice g h i,.slice j k l] <|
 T.aY Tryz.prog (Sx.bM (BinOp.eql) 29 (Operand.tmp 7) (Operand.const Value.nilIface) m .nilIface) false [(false,[.bool])] fun o =>
 cond o
 (T.ae n [.slice 96] fun p q r =>
 cond ((q:Int)==(2:Int))
 (T.ae n [.slice 96] fun s t u =>
 T.need (((0:Int)≤(0:Int))∧((0:Int)<(t:Int))) <|
 T.au s fun v =>
 T.ae (v.add 1) [.string] fun w =>
 cond ((ByteArray.toList w)==[({ toBitVec:=97#8 })])
 (T.ae n [.slice 96] fun x y z =>
 T.need (((0:Int)≤(1:Int))∧((1:Int)<(y:Int))) <|
 T.au x fun A =>
 T.ae ((A.add 10).add 2) [.int .i64] fun B =>
 cond (B==(40:Int))
 (T.ae n [.slice 96,.slice 96,.slice 99,.slice 9] fun C D E F G H I J K L M N =>
 T.call Tryz.prog 21 [.agg #[.slice C D E,.slice F G H,.slice I J K,.slice L M N]] false [(false,[.int .i64])] fun O =>
 cond (O==(1:Int))
 (T.ae n [.slice 96,.slice 96,.slice 99,.slice 9] fun P Q R S U V W X Y Z a0 a1 =>
 T.call Tryz.prog 18 [.agg #[.slice P Q R,.slice S U V,.slice W X Y,.slice Z a0 a1]] false [(false,[.int .i64])] fun a2 =>
 cond (a2==(0:Int))
 (T.call Tryz.prog 17 [.string ⟨#[97,58,32,110,111,112,10,97,58,32,110,111,112]⟩,vI 2,vI 22] false [(false,[.bool])] fun a3 =>
 T.ret (.bool a3))
 (T.ret (.bool false)))
 (T.ret (.bool false)))
 (T.ret (.bool false)))
 (T.ret (.bool false)))
 (T.ret (.bool false)))
 (T.ret (.bool false))
theorem kP :aX Tryz.prog [] Tryz.f14 []=gX :=by kernel_rfl
def iC (a:ByteArray) (b:Int) (c:Int):T :=
 T.call Tryz.prog 10 [.string a] true [(true, [.slice 96, .slice 96, .slice 99, .slice 9]), (false, [.interface #[("Error", 85)]])] fun (d : Option Addr) (e : Nat) (f : Nat) (g : Option Addr) (h : Nat) (i : Nat) (j : Option Addr) (k : Nat) (l : Nat) (m : Option Addr) (n : Nat) (o : Nat) (p : Value) =>
 T.new [.slice none 0 0,.slice none 0 0,.slice none 0 0,.slice none 0 0] 27 fun q =>
 T.ap q [.slice d e f,.slice g h i,.slice j k l,.slice m n o] <|
 T.call Tryz.prog 12 [p,.agg #[vI b,vI c]] false [(false,[.bool])] fun r =>
 T.ret (.bool r)
theorem kW (a:ByteArray) (b:Int) (c:Int):aX Tryz.prog [] Tryz.f17 [.string a,vI b,vI c]=iC a b c:=by kernel_rfl
end Go.Sx
