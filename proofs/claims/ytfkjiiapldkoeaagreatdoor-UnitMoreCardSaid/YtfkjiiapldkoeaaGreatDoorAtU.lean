/- Trees of functions, each checked by the kernel against the code. No condition. -/
import Derived.Test.YtfkjiiapldkoeaaGreatDoorSxF
import Derived.Test.YtfkjiiapldkoeaaGreatDoorProg
import Derived.KernelRfl
set_option linter.unusedVariables false
set_option linter.unusedSimpArgs false
set_option linter.deprecated false
set_option maxRecDepth 100000
namespace Go.Sx
open Go.Proofs
def wK (a:ByteArray) (b:ByteArray):T :=
 T.call Tryz.prog 9 [.string a,vI 2000] false [(false,[.string])] fun c =>
 T.call Tryz.prog 10 [.string c] true [(true, [.slice 96, .slice 96, .slice 99, .slice 9]), (false, [.interface #[("Error", 85)]])] fun (d : Option Addr) (e : Nat) (f : Nat) (g : Option Addr) (h : Nat) (i : Nat) (j : Option Addr) (k : Nat) (l : Nat) (m : Option Addr) (n : Nat) (o : Nat) (p : Value) =>
 T.new [.slice none 0 0,.slice none 0 0,.slice none 0 0,.slice none 0 0] 27 fun q =>
 T.ap q [.slice d e f,.slice g h i,.slice j k l,.slice m n o] <|
 T.new [.pointer none] 59 fun r =>
 T.aV Tryz.prog (Sx.bJ (BinOp.neq) 29 (Operand.tmp 24) (Operand.const Value.nilIface) p .nilIface) false [(false,[.bool])] fun s =>
 cond s
 (T.loop [(false,[.int .i64]),(false,[.int .i64])] [vI 1,vI 0] fun t u =>
 cond (decide (u<(c.size:Int)))
 (T.need (((0:Int)≤u)∧(u<(c.size:Int))) <|
 cond ((bV c u)==(10:Int))
 (T.again 0 [vI (IntKind.wrap .i64 (t+(1:Int))),vI (IntKind.wrap .i64 (u+(1:Int)))])
 (T.again 0 [vI t,vI (IntKind.wrap .i64 (u+(1:Int)))]))
 (T.call Tryz.prog 30 [p,.iface 61 (.pointer (some r))] false [(false,[.bool])] fun v =>
 cond v
 (T.ae r [.pointer 63] fun w =>
 cond (!(/-?Option.isSome.match_1-/ match w with
 | some val=>false
 | none=>true))
 (T.ae r [.pointer 63] fun x =>
 T.au x fun y =>
 T.ae y [.int .i64] fun z =>
 cond (decide (z≥(1:Int)))
 (T.ae r [.pointer 63] fun A =>
 T.au A fun B =>
 T.ae B [.int .i64] fun C =>
 cond (decide (C≤t))
 (T.ae q [.slice 96,.slice 96,.slice 99,.slice 9] fun D E F G H I J K L M N O =>
 T.call Tryz.prog 13 [.agg #[.slice D E F,.slice G H I,.slice J K L,.slice M N O],.agg #[.slice none 0 0,.slice none 0 0,.slice none 0 0,.slice none 0 0]] false [(false,[.bool])] fun P =>
 cond P
 (T.call Tryz.prog 14 [] false [(false,[.bool])] fun Q =>
 T.ret (.bool Q))
 (T.ret (.bool false)))
 (T.ret (.bool false)))
 (T.ret (.bool false)))
 (T.ret (.bool false)))
 (T.ret (.bool false))))
 (T.ae q [.slice 96,.slice 96,.slice 99,.slice 9] fun t u v w x y z A B C D E =>
 T.call Tryz.prog 18 [.agg #[.slice t u v,.slice w x y,.slice z A B,.slice C D E]] false [(false,[.int .i64])] fun F =>
 cond (F != (0:Int))
 (T.ret (.bool false))
 (T.call Tryz.prog 9 [.string b,vI 50] false [(false,[.string])] fun G =>
 T.loop [(false,[.slice 0]),(false,[.int .i64])] [.slice none 0 0,vI 0] fun H I J K =>
 cond (decide (K<(G.size:Int)))
 (T.need (((0:Int)≤K)∧(K<(G.size:Int))) <|
 cond ((bV G K) != (10:Int))
 (T.need (((0:Int)≤K)∧(K<(G.size:Int))) <|
 T.aV Tryz.prog (Instr.buildSlice 42 1 #[(0,.int .u8 (bV G K))]) false [(false,[.slice 0])] fun L M N =>
 T.aV Tryz.prog (Builtin.append_ #[42,42] 42 #[.slice H I J,.slice L M N]) false [(false,[.slice 0])] fun O P Q =>
 T.again 0 [.slice O P Q,vI (IntKind.wrap .i64 (K+(1:Int)))])
 (T.again 0 [.slice H I J,vI (IntKind.wrap .i64 (K+(1:Int)))]))
 (T.loop [(false,[.string]),(false,[.int .i64])] [.string ⟨#[]⟩,vI 0] fun L M =>
 cond (decide (M<(c.size:Int)))
 (T.need (((0:Int)≤M)∧(M<(c.size:Int))) <|
 cond ((bV c M)==(10:Int))
 (T.need ((((L.size+2):Nat):Int)≤(9223372036854775807:Int)) <|
 T.aV Tryz.prog (convert 42 9 (.slice H I J)) false [(false,[.string])] fun N =>
 T.need (((((ByteArray.size (L++⟨#[32,59]⟩))+N.size):Nat):Int)≤(9223372036854775807:Int)) <|
 T.need (((((ByteArray.size ((L++⟨#[32,59]⟩)++N))+4):Nat):Int)≤(9223372036854775807:Int)) <|
 T.again 1 [.string (((L++⟨#[32,59]⟩)++N)++⟨#[10,10,9,32]⟩),vI (IntKind.wrap .i64 (M+(1:Int)))])
 (T.need (((0:Int)≤M)∧((M≤(IntKind.wrap .i64 (M+(1:Int))))∧((IntKind.wrap .i64 (M+(1:Int)))≤(c.size:Int)))) <|
 T.need ((((L.size+(ByteArray.size (ByteArray.extract c (Int.toNat M) (Int.toNat (IntKind.wrap .i64 (M+(1:Int))))))):Nat):Int)≤(9223372036854775807:Int)) <|
 T.again 1 [.string (L++(ByteArray.extract c (Int.toNat M) (Int.toNat (IntKind.wrap .i64 (M+(1:Int)))))),vI (IntKind.wrap .i64 (M+(1:Int)))]))
 (cond (decide ((L.size:Int)>(65536:Int)))
 (T.call Tryz.prog 14 [] false [(false,[.bool])] fun N =>
 T.ret (.bool N))
 (T.call Tryz.prog 10 [.string L] true [(true, [.slice 96, .slice 96, .slice 99, .slice 9]), (false, [.interface #[("Error", 85)]])] fun (N : Option Addr) (O : Nat) (P : Nat) (Q : Option Addr) (R : Nat) (S : Nat) (U : Option Addr) (V : Nat) (W : Nat) (X : Option Addr) (Y : Nat) (Z : Nat) (a0 : Value) =>
 T.new [.slice none 0 0,.slice none 0 0,.slice none 0 0,.slice none 0 0] 27 fun a1 =>
 T.ap a1 [.slice N O P,.slice Q R S,.slice U V W,.slice X Y Z] <|
 T.aV Tryz.prog (Sx.bJ (BinOp.eql) 29 (Operand.tmp 121) (Operand.const Value.nilIface) a0 .nilIface) false [(false,[.bool])] fun a2 =>
 cond a2
 (T.ae q [.slice 96,.slice 96,.slice 99,.slice 9] fun a3 a4 a5 a6 a7 a8 a9 b0 b1 b2 b3 b4 =>
 T.ae a1 [.slice 96,.slice 96,.slice 99,.slice 9] fun b5 b6 b7 b8 b9 c0 c1 c2 c3 c4 c5 c6 =>
 T.call Tryz.prog 13 [.agg #[.slice a3 a4 a5,.slice a6 a7 a8,.slice a9 b0 b1,.slice b2 b3 b4],.agg #[.slice b5 b6 b7,.slice b8 b9 c0,.slice c1 c2 c3,.slice c4 c5 c6]] false [(false,[.bool])] fun c7 =>
 cond c7
 (T.call Tryz.prog 14 [] false [(false,[.bool])] fun c8 =>
 T.ret (.bool c8))
 (T.ret (.bool false)))
 (T.ret (.bool false)))))))
def fv (a:ByteArray) (b:ByteArray):T :=
 T.call Tryz.prog 9 [.string a,vI 1000] false [(false,[.string])] fun c =>
 T.call Tryz.prog 10 [.string c] true [(true, [.slice 96, .slice 96, .slice 99, .slice 9]), (false, [.interface #[("Error", 85)]])] fun (d : Option Addr) (e : Nat) (f : Nat) (g : Option Addr) (h : Nat) (i : Nat) (j : Option Addr) (k : Nat) (l : Nat) (m : Option Addr) (n : Nat) (o : Nat) (p : Value) =>
 T.new [.slice none 0 0,.slice none 0 0,.slice none 0 0,.slice none 0 0] 27 fun q =>
 T.ap q [.slice d e f,.slice g h i,.slice j k l,.slice m n o] <|
 T.need ((((c.size+1):Nat):Int)≤(9223372036854775807:Int)) <|
 T.call Tryz.prog 9 [.string b,vI 500] false [(false,[.string])] fun r =>
 T.need (((((ByteArray.size (c++⟨#[10]⟩))+r.size):Nat):Int)≤(9223372036854775807:Int)) <|
 T.call Tryz.prog 10 [.string ((c ++ ⟨#[10]⟩) ++ r)] true [(true, [.slice 96, .slice 96, .slice 99, .slice 9]), (false, [.interface #[("Error", 85)]])] fun (s : Option Addr) (t : Nat) (u : Nat) (v : Option Addr) (w : Nat) (x : Nat) (y : Option Addr) (z : Nat) (A : Nat) (B : Option Addr) (C : Nat) (D : Nat) (E : Value) =>
 T.new [.slice none 0 0,.slice none 0 0,.slice none 0 0,.slice none 0 0] 27 fun F =>
 T.ap F [.slice s t u,.slice v w x,.slice y z A,.slice B C D] <|
 T.new [.pointer none] 59 fun G =>
 T.new [.pointer none] 59 fun H =>
 T.join [(false,[.bool])]
 (T.call Tryz.prog 30 [p,.iface 61 (.pointer (some G))] false [(false,[.bool])] fun I =>
 cond I
 (T.ae G [.pointer 63] fun J =>
 cond (!(/-?Option.isSome.match_1-/ match J with
 | some val=>false
 | none=>true))
 (T.ae G [.pointer 63] fun K =>
 T.au K fun L =>
 T.ae (L.add 1) [.int .i64] fun M =>
 cond (M != (23:Int))
 (T.call Tryz.prog 30 [E,.iface 61 (.pointer (some H))] false [(false,[.bool])] fun N =>
 cond N
 (T.ae H [.pointer 63] fun O =>
 cond (!(/-?Option.isSome.match_1-/ match O with
 | some val=>false
 | none=>true))
 (T.ae H [.pointer 63] fun P =>
 T.au P fun Q =>
 T.ae Q [.int .i64] fun R =>
 T.ae G [.pointer 63] fun S =>
 T.au S fun U =>
 T.ae U [.int .i64] fun V =>
 cond (R==V)
 (T.ae H [.pointer 63] fun W =>
 T.au W fun X =>
 T.ae (X.add 1) [.int .i64] fun Y =>
 T.ae G [.pointer 63] fun Z =>
 T.au Z fun a0 =>
 T.ae (a0.add 1) [.int .i64] fun a1 =>
 cond (Y==a1)
 (T.call Tryz.prog 14 [] false [(false,[.bool])] fun a2 =>
 T.aO [((a0.add 1),[vI a1]),(G,[.pointer Z]),((X.add 1),[vI Y]),(H,[.pointer W]),(U,[vI V]),(G,[.pointer S]),(Q,[vI R]),(H,[.pointer P]),(H,[.pointer O])] <|
 T.ret (.bool a2))
 (T.ret (.bool false)))
 (T.ret (.bool false)))
 (T.ret (.bool false)))
 (T.ret (.bool false)))
 (T.again 0 [.bool false]))
 (T.again 0 [.bool false]))
 (T.again 0 [.bool false])) fun I =>
 T.aV Tryz.prog (Sx.bJ (BinOp.neq) 29 (Operand.tmp 73) (Operand.const Value.nilIface) p .nilIface) false [(false,[.bool])] fun J =>
 cond J
 (T.call Tryz.prog 14 [] false [(false,[.bool])] fun K =>
 T.ret (.bool K))
 (T.aV Tryz.prog (Sx.bJ (BinOp.neq) 29 (Operand.tmp 76) (Operand.const Value.nilIface) E .nilIface) false [(false,[.bool])] fun K =>
 cond K
 (T.call Tryz.prog 14 [] false [(false,[.bool])] fun L =>
 T.ret (.bool L))
 (T.ae q [.slice 96] fun L M N =>
 T.ae F [.slice 96] fun O P Q =>
 cond (decide ((M:Int)≤(P:Int)))
 (T.ae (q.add 1) [.slice 96] fun R S U =>
 T.ae (F.add 1) [.slice 96] fun V W X =>
 cond (decide ((S:Int)≤(W:Int)))
 (T.ae q [.slice 96] fun Y Z a0 =>
 T.ae F [.slice 96] fun a1 a2 a3 =>
 T.ae q [.slice 96] fun a4 a5 a6 =>
 T.need (((0:Int)≤(0:Int))∧(((0:Int)≤(a5:Int))∧((a5:Int)≤(a3:Int)))) <|
 T.call Tryz.prog 31 [.slice Y Z a0,.slice (if (a3=0) then a1 else (Option.map (fun a7=>Addr.add a7 0) a1)) ((Int.toNat (a5:Int))-0) (a3-0)] false [(false,[.bool])] fun a7 =>
 T.aO [(q,[.slice a4 a5 a6]),(F,[.slice a1 a2 a3]),((F.add 1),[.slice V W X]),((q.add 1),[.slice R S U]),(F,[.slice O P Q]),(q,[.slice L M N])] <|
 cond a7
 (T.ae (q.add 1) [.slice 96] fun a8 a9 b0 =>
 T.ae (F.add 1) [.slice 96] fun b1 b2 b3 =>
 T.ae (q.add 1) [.slice 96] fun b4 b5 b6 =>
 T.need (((0:Int)≤(0:Int))∧(((0:Int)≤(b5:Int))∧((b5:Int)≤(b3:Int)))) <|
 T.call Tryz.prog 31 [.slice a8 a9 b0,.slice (if (b3=0) then b1 else (Option.map (fun b7=>Addr.add b7 0) b1)) ((Int.toNat (b5:Int))-0) (b3-0)] false [(false,[.bool])] fun b7 =>
 T.aO [((q.add 1),[.slice b4 b5 b6]),((F.add 1),[.slice b1 b2 b3]),(q,[.slice a4 a5 a6]),(F,[.slice a1 a2 a3]),(q,[.slice Y Z a0]),((F.add 1),[.slice V W X]),((q.add 1),[.slice R S U]),(F,[.slice O P Q]),(q,[.slice L M N])] <|
 cond b7
 (T.call Tryz.prog 14 [] false [(false,[.bool])] fun b8 =>
 T.aO [((q.add 1),[.slice b4 b5 b6]),((F.add 1),[.slice b1 b2 b3]),((q.add 1),[.slice a8 a9 b0]),(q,[.slice a4 a5 a6]),(F,[.slice a1 a2 a3]),(q,[.slice Y Z a0]),((F.add 1),[.slice V W X]),((q.add 1),[.slice R S U]),(F,[.slice O P Q]),(q,[.slice L M N])] <|
 T.ret (.bool b8))
 (T.ret (.bool false)))
 (T.ret (.bool false)))
 (T.ret (.bool false)))
 (T.ret (.bool false))))
theorem iP (a:ByteArray) (b:ByteArray):aY Tryz.prog [1007] Tryz.f8 [.string a,.string b]=fv a b:=by kernel_rfl
end Go.Sx
