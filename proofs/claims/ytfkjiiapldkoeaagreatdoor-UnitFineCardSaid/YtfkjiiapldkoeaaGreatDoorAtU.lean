/- Trees of functions, each checked by the kernel against the code. No condition. -/
import Derived.Test.YtfkjiiapldkoeaaGreatDoorSxF
import Derived.Test.YtfkjiiapldkoeaaGreatDoorProg
import Derived.KernelRfl
set_option linter.unusedVariables false
set_option linter.unusedSimpArgs false
set_option linter.deprecated false
set_option maxRecDepth 100000
namespace Go.Sx
open Go.Proofs
def fz (a:ByteArray) (b:ByteArray):T :=
 T.call Tryz.prog 9 [.string a,vI 2000] false [(false,[.string])] fun c =>
 T.call Tryz.prog 10 [.string c] true [(true, [.slice 96, .slice 96, .slice 99, .slice 9]), (false, [.interface #[("Error", 85)]])] fun (d : Option Addr) (e : Nat) (f : Nat) (g : Option Addr) (h : Nat) (i : Nat) (j : Option Addr) (k : Nat) (l : Nat) (m : Option Addr) (n : Nat) (o : Nat) (p : Value) =>
 T.new [.slice none 0 0,.slice none 0 0,.slice none 0 0,.slice none 0 0] 27 fun q =>
 T.ap q [.slice d e f,.slice g h i,.slice j k l,.slice m n o] <|
 T.new [.pointer none] 59 fun r =>
 T.aY Tryz.prog (Sx.bM (BinOp.neq) 29 (Operand.tmp 24) (Operand.const Value.nilIface) p .nilIface) false [(false,[.bool])] fun s =>
 cond s
 (T.loop [(false,[.int .i64]),(false,[.int .i64])] [vI 1,vI 0] fun t u =>
 cond (decide (u<(c.size:Int)))
 (T.need (((0:Int)≤u)∧(u<(c.size:Int))) <|
 cond ((bN c u)==(10:Int))
 (T.again 0 [vI (IntKind.wrap .i64 (t+(1:Int))),vI (IntKind.wrap .i64 (u+(1:Int)))])
 (T.again 0 [vI t,vI (IntKind.wrap .i64 (u+(1:Int)))]))
 (T.call Tryz.prog 30 [p,.iface 61 (.pointer (some r))] false [(false,[.bool])] fun v =>
 cond v
 (T.ae r [.pointer 63] fun w =>
 cond (!(/-?Option.isSome.match_1-/ match w with
 | some val=>false
 | none=>true))
 (T.ae r [.pointer 63] fun x =>
 T.au x fun y =>
 T.ae y [.int .i64] fun z =>
 cond (decide (z≥(1:Int)))
 (T.ae r [.pointer 63] fun A =>
 T.au A fun B =>
 T.ae B [.int .i64] fun C =>
 cond (decide (C≤t))
 (T.ae q [.slice 96,.slice 96,.slice 99,.slice 9] fun D E F G H I J K L M N O =>
 T.call Tryz.prog 13 [.agg #[.slice D E F,.slice G H I,.slice J K L,.slice M N O],.agg #[.slice none 0 0,.slice none 0 0,.slice none 0 0,.slice none 0 0]] false [(false,[.bool])] fun P =>
 cond P
 (T.call Tryz.prog 14 [] false [(false,[.bool])] fun Q =>
 T.ret (.bool Q))
 (T.ret (.bool false)))
 (T.ret (.bool false)))
 (T.ret (.bool false)))
 (T.ret (.bool false)))
 (T.ret (.bool false))))
 (T.ae q [.slice 96,.slice 96,.slice 99,.slice 9] fun t u v w x y z A B C D E =>
 T.call Tryz.prog 18 [.agg #[.slice t u v,.slice w x y,.slice z A B,.slice C D E]] false [(false,[.int .i64])] fun F =>
 cond (F != (0:Int))
 (T.ret (.bool false))
 (T.call Tryz.prog 9 [.string b,vI 50] false [(false,[.string])] fun G =>
 T.loop [(false,[.slice 0]),(false,[.int .i64])] [.slice none 0 0,vI 0] fun H I J K =>
 cond (decide (K<(G.size:Int)))
 (T.need (((0:Int)≤K)∧(K<(G.size:Int))) <|
 cond ((bN G K) != (10:Int))
 (T.need (((0:Int)≤K)∧(K<(G.size:Int))) <|
 T.aY Tryz.prog (Instr.buildSlice 42 1 #[(0,.int .u8 (bN G K))]) false [(false,[.slice 0])] fun L M N =>
 T.aY Tryz.prog (Builtin.append_ #[42,42] 42 #[.slice H I J,.slice L M N]) false [(false,[.slice 0])] fun O P Q =>
 T.again 0 [.slice O P Q,vI (IntKind.wrap .i64 (K+(1:Int)))])
 (T.again 0 [.slice H I J,vI (IntKind.wrap .i64 (K+(1:Int)))]))
 (T.loop [(false,[.string]),(false,[.int .i64])] [.string ⟨#[]⟩,vI 0] fun L M =>
 cond (decide (M<(c.size:Int)))
 (T.need (((0:Int)≤M)∧(M<(c.size:Int))) <|
 cond ((bN c M)==(10:Int))
 (T.need ((((L.size+2):Nat):Int)≤(9223372036854775807:Int)) <|
 T.aY Tryz.prog (convert 42 9 (.slice H I J)) false [(false,[.string])] fun N =>
 T.need (((((ByteArray.size (L++⟨#[32,59]⟩))+N.size):Nat):Int)≤(9223372036854775807:Int)) <|
 T.need (((((ByteArray.size ((L++⟨#[32,59]⟩)++N))+4):Nat):Int)≤(9223372036854775807:Int)) <|
 T.again 1 [.string (((L++⟨#[32,59]⟩)++N)++⟨#[10,10,9,32]⟩),vI (IntKind.wrap .i64 (M+(1:Int)))])
 (T.need (((0:Int)≤M)∧((M≤(IntKind.wrap .i64 (M+(1:Int))))∧((IntKind.wrap .i64 (M+(1:Int)))≤(c.size:Int)))) <|
 T.need ((((L.size+(ByteArray.size (ByteArray.extract c (Int.toNat M) (Int.toNat (IntKind.wrap .i64 (M+(1:Int))))))):Nat):Int)≤(9223372036854775807:Int)) <|
 T.again 1 [.string (L++(ByteArray.extract c (Int.toNat M) (Int.toNat (IntKind.wrap .i64 (M+(1:Int)))))),vI (IntKind.wrap .i64 (M+(1:Int)))]))
 (cond (decide ((L.size:Int)>(65536:Int)))
 (T.call Tryz.prog 14 [] false [(false,[.bool])] fun N =>
 T.ret (.bool N))
 (T.call Tryz.prog 10 [.string L] true [(true, [.slice 96, .slice 96, .slice 99, .slice 9]), (false, [.interface #[("Error", 85)]])] fun (N : Option Addr) (O : Nat) (P : Nat) (Q : Option Addr) (R : Nat) (S : Nat) (U : Option Addr) (V : Nat) (W : Nat) (X : Option Addr) (Y : Nat) (Z : Nat) (a0 : Value) =>
 T.new [.slice none 0 0,.slice none 0 0,.slice none 0 0,.slice none 0 0] 27 fun a1 =>
 T.ap a1 [.slice N O P,.slice Q R S,.slice U V W,.slice X Y Z] <|
 T.aY Tryz.prog (Sx.bM (BinOp.eql) 29 (Operand.tmp 121) (Operand.const Value.nilIface) a0 .nilIface) false [(false,[.bool])] fun a2 =>
 cond a2
 (T.ae q [.slice 96,.slice 96,.slice 99,.slice 9] fun a3 a4 a5 a6 a7 a8 a9 b0 b1 b2 b3 b4 =>
 T.ae a1 [.slice 96,.slice 96,.slice 99,.slice 9] fun b5 b6 b7 b8 b9 c0 c1 c2 c3 c4 c5 c6 =>
 T.call Tryz.prog 13 [.agg #[.slice a3 a4 a5,.slice a6 a7 a8,.slice a9 b0 b1,.slice b2 b3 b4],.agg #[.slice b5 b6 b7,.slice b8 b9 c0,.slice c1 c2 c3,.slice c4 c5 c6]] false [(false,[.bool])] fun c7 =>
 cond c7
 (T.call Tryz.prog 14 [] false [(false,[.bool])] fun c8 =>
 T.ret (.bool c8))
 (T.ret (.bool false)))
 (T.ret (.bool false)))))))
theorem jB (a:ByteArray) (b:ByteArray):aX Tryz.prog [] Tryz.f7 [.string a,.string b]=fz a b:=by kernel_rfl
end Go.Sx
