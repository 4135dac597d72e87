/- Trees of functions, each checked by the kernel against the code. No condition. -/
import Derived.Test.YtfkjiiapldkoeaaGreatDoorSxF
import Derived.Test.YtfkjiiapldkoeaaGreatDoorProg
import Derived.KernelRfl
set_option linter.unusedVariables false
set_option linter.unusedSimpArgs false
set_option linter.deprecated false
set_option maxRecDepth 100000
namespace Go.Sx
open Go.Proofs
def dy (a:Option Addr) (b:Option Addr) (c d:Nat):T :=
 T.join []
 (T.aw a fun e =>
 T.ae e [.slice 25] fun f g h =>
 T.aS Tryz.prog (Instr.buildSlice 53 1 #[(0,.slice b c d)]) false [(false,[.slice 0])] fun i j k =>
 T.aS Tryz.prog (Builtin.append_ #[53,53] 53 #[.slice f g h,.slice i j k]) false [(false,[.slice 0])] fun l m n =>
 T.aw a fun o =>
 T.ao o [.slice l m n] <|
 T.again 0 []) <| T.join []
 (T.aw a fun e =>
 T.ae (e.add 1) [.slice 25] fun f g h =>
 T.aS Tryz.prog (Builtin.append_ #[25,25] 25 #[.slice none 0 0,.slice b c d]) false [(false,[.slice 0])] fun i j k =>
 T.aB [((e.add 1),[.slice f g h])] <|
 T.aS Tryz.prog (Instr.buildSlice 53 1 #[(0,.slice i j k)]) false [(false,[.slice 0])] fun l m n =>
 T.aB [((e.add 1),[.slice f g h])] <|
 T.aS Tryz.prog (Builtin.append_ #[53,53] 53 #[.slice f g h,.slice l m n]) false [(false,[.slice 0])] fun o p q =>
 T.aw a fun r =>
 T.ao (r.add 1) [.slice o p q] <|
 T.again 0 []) <| T.aw a fun e =>
 T.ae (e.add 2) [.int .i64] fun f =>
 T.aw a fun g =>
 T.ao (g.add 2) [vI (IntKind.wrap .i64 ((IntKind.wrap .i64 (f+(d:Int)))+(1:Int)))] <|
 T.loop [] [] <| T.join []
 (T.aw a fun h =>
 T.ae h [.slice 25] fun i j k =>
 cond (decide ((j:Int)>(1:Int)))
 (T.aw a fun l =>
 T.ae (l.add 2) [.int .i64] fun m =>
 cond (decide (m>(1000000:Int)))
 (T.again 1 [])
 (T.aw a fun n =>
 T.ae n [.slice 25] fun o p q =>
 cond (decide ((p:Int)>(4000:Int)))
 (T.again 1 [])
 (T.ret (.tuple #[]))))
 (T.ret (.tuple #[]))) <| T.join []
 (T.aw a fun h =>
 T.ae (h.add 3) [.bool] fun i =>
 cond i
 (T.aw a fun j =>
 T.ao (j.add 3) [.bool true] <|
 T.again 1 [])
 (T.aw a fun j =>
 T.ae j [.slice 25] fun k l m =>
 T.need (((0:Int)≤(0:Int))∧((0:Int)<(l:Int))) <|
 T.aw k fun n =>
 T.ae n [.slice 9] fun o p q =>
 T.aw a fun r =>
 T.ae (r.add 1) [.slice 25] fun s t u =>
 T.need (((0:Int)≤(0:Int))∧((0:Int)<(t:Int))) <|
 T.aw s fun v =>
 T.ae v [.slice 9] fun w x y =>
 T.call Tryz.prog 15 [.slice o p q,.slice w x y] false [(false,[.bool])] fun z =>
 T.aB [((r.add 1),[.slice s t u]),(j,[.slice k l m]),((h.add 3),[.bool i])] <|
 T.aw a fun A =>
 T.ao (A.add 3) [.bool (!z)] <|
 T.again 1 [])) <| T.aw a fun h =>
 T.ae (h.add 2) [.int .i64] fun i =>
 T.aw a fun j =>
 T.ae j [.slice 25] fun k l m =>
 T.need (((0:Int)≤(0:Int))∧((0:Int)<(l:Int))) <|
 T.aw k fun n =>
 T.ae n [.slice 9] fun o p q =>
 T.aw a fun r =>
 T.ao (r.add 2) [vI (IntKind.wrap .i64 ((IntKind.wrap .i64 (i-(q:Int)))-(1:Int)))] <|
 T.aw a fun s =>
 T.ae s [.slice 25] fun t u v =>
 T.need (((0:Int)≤(1:Int))∧(((1:Int)≤(u:Int))∧((u:Int)≤(v:Int)))) <|
 T.aw a fun w =>
 T.ao w [.slice (if (v=1) then t else (Option.map (fun x=>Addr.add x 1) t)) ((Int.toNat (u:Int))-1) (v-1)] <|
 T.aw a fun x =>
 T.ae (x.add 1) [.slice 25] fun y z A =>
 T.need (((0:Int)≤(1:Int))∧(((1:Int)≤(z:Int))∧((z:Int)≤(A:Int)))) <|
 T.aw a fun B =>
 T.ao (B.add 1) [.slice (if (A=1) then y else (Option.map (fun C=>Addr.add C 1) y)) ((Int.toNat (z:Int))-1) (A-1)] <|
 T.again 0 []
theorem fb (a:Option Addr) (b:Option Addr) (c d:Nat):aZ Tryz.prog [0,1,1004,4] Tryz.f27 [.pointer a,.slice b c d]=dy a b c d:=by kernel_rfl
def cO (a:Option Addr):T :=
 T.call Tryz.prog 56 [.pointer a] false [(false,[.bool])] fun b =>
 cond (!b)
 (T.ret (.bool false))
 (T.loop [(false,[.int .i64])] [vI 0] fun c =>
 T.aw a fun d =>
 T.ae d [.slice 25] fun e f g =>
 cond (decide (c<(f:Int)))
 (T.aw a fun h =>
 T.ae h [.slice 25] fun i j k =>
 T.need (((0:Int)≤c)∧(c<(j:Int))) <|
 T.aw i fun l =>
 T.ae (l.add ((Int.toNat c)*1)) [.slice 9] fun m n o =>
 T.aw a fun p =>
 T.ae p [.slice 25] fun q r s =>
 T.need (((0:Int)≤c)∧(c<(r:Int))) <|
 T.aw q fun t =>
 T.ae (t.add ((Int.toNat c)*1)) [.slice 9] fun u v w =>
 T.need (((0:Int)≤(0:Int))∧(((0:Int)≤(w:Int))∧((w:Int)≤(o:Int)))) <|
 T.loop [(false,[.int .i64])] [vI 0] fun x =>
 cond (decide (x<((((Int.toNat (w:Int))-0):Nat):Int)))
 (T.oz Tryz.prog (.func (Fn.func 29) #[] #[]) [vI c,vI x] false [(false,[.string])] fun y =>
 T.need (((0:Int)≤x)∧(x<((((Int.toNat (w:Int))-0):Nat):Int))) <|
 T.aw (if (o=0) then m else (Option.map (fun z=>Addr.add z 0) m)) fun z =>
 T.ao (z.add ((Int.toNat x)*1)) [.string y] <|
 T.again 1 [vI (IntKind.wrap .i64 (x+(1:Int)))])
 (T.again 0 [vI (IntKind.wrap .i64 (c+(1:Int)))]))
 (T.loop [(false,[.bool]),(false,[.int .i64])] [.bool false,vI 0] fun h i =>
 T.aw a fun j =>
 T.ae j [.slice 25] fun k l m =>
 cond (decide (i<(l:Int)))
 (T.aw a fun n =>
 T.ae n [.slice 25] fun o p q =>
 T.need (((0:Int)≤i)∧(i<(p:Int))) <|
 T.aw o fun r =>
 T.ae (r.add ((Int.toNat i)*1)) [.slice 9] fun s t u =>
 T.aw a fun v =>
 T.ae v [.slice 25] fun w x y =>
 T.need (((0:Int)≤i)∧(i<(x:Int))) <|
 T.aw w fun z =>
 T.ae (z.add ((Int.toNat i)*1)) [.slice 9] fun A B C =>
 T.need (((0:Int)≤(0:Int))∧(((0:Int)≤(C:Int))∧((C:Int)≤(u:Int)))) <|
 T.loop [(false,[.bool]),(false,[.int .i64])] [.bool h,vI 0] fun D E =>
 cond (decide (E<((((Int.toNat (C:Int))-0):Nat):Int)))
 (T.need (((0:Int)≤E)∧(E<((((Int.toNat (C:Int))-0):Nat):Int))) <|
 T.aw (if (u=0) then s else (Option.map (fun F=>Addr.add F 0) s)) fun F =>
 T.ae (F.add ((Int.toNat E)*1)) [.string] fun G =>
 T.oz Tryz.prog (.func (Fn.func 29) #[] #[]) [vI i,vI E] false [(false,[.string])] fun H =>
 T.aB [((F.add ((Int.toNat E)*1)),[.string G])] <|
 cond (!((ByteArray.toList G)==(ByteArray.toList H)))
 (T.ret (.bool false))
 (T.again 2 [.bool D,vI (IntKind.wrap .i64 (E+(1:Int)))]))
 (T.again 1 [.bool D,vI (IntKind.wrap .i64 (i+(1:Int)))]))
 (T.aw a fun n =>
 T.ao n [.slice none 0 0] <|
 T.aw a fun o =>
 T.ao (o.add 1) [.slice none 0 0] <|
 T.aw a fun p =>
 T.ao (p.add 2) [vI 0] <|
 T.ret (.bool true))))
theorem ej (a:Option Addr):aZ Tryz.prog [] Tryz.f28 [.pointer a,.func (Fn.func 29) #[] #[]]=cO a:=by kernel_rfl
def dr (a:Option Addr):T :=
 T.loop [(false,[.int .i64])] [vI 0] fun b =>
 T.aw a fun c =>
 T.ae c [.slice 25] fun d e f =>
 cond (decide (b<(e:Int)))
 (T.aw a fun g =>
 T.ae (g.add 3) [.bool] fun h =>
 cond h
 (T.aw a fun i =>
 T.ao (i.add 3) [.bool true] <|
 T.again 0 [vI (IntKind.wrap .i64 (b+(1:Int)))])
 (T.aw a fun i =>
 T.ae i [.slice 25] fun j k l =>
 T.need (((0:Int)≤b)∧(b<(k:Int))) <|
 T.aw j fun m =>
 T.ae (m.add ((Int.toNat b)*1)) [.slice 9] fun n o p =>
 T.aw a fun q =>
 T.ae (q.add 1) [.slice 25] fun r s t =>
 T.need (((0:Int)≤b)∧(b<(s:Int))) <|
 T.aw r fun u =>
 T.ae (u.add ((Int.toNat b)*1)) [.slice 9] fun v w x =>
 T.call Tryz.prog 15 [.slice n o p,.slice v w x] false [(false,[.bool])] fun y =>
 T.aB [((q.add 1),[.slice r s t]),(i,[.slice j k l]),((g.add 3),[.bool h])] <|
 T.aw a fun z =>
 T.ao (z.add 3) [.bool (!y)] <|
 T.again 0 [vI (IntKind.wrap .i64 (b+(1:Int)))]))
 (T.aw a fun g =>
 T.ae (g.add 3) [.bool] fun h =>
 T.ret (.bool (!h)))
theorem eX (a:Option Addr):aZ Tryz.prog [] Tryz.f56 [.pointer a]=dr a:=by kernel_rfl
def gu (a:Int) (b:Int):T :=
 T.need ((0:Int)≤(8:Int)) <|
 T.need ((0:Int)≤(16:Int)) <|
 T.aS Tryz.prog (Instr.buildSlice 42 3 #[(0,.int .u8 (IntKind.wrap .u8 a)),(1,.int .u8 (IntKind.wrap .u8 (Int.fdiv a (256:Int)))),(2,.int .u8 (IntKind.wrap .u8 (Int.fdiv a (65536:Int))))]) false [(false,[.slice 0])] fun c d e =>
 T.aS Tryz.prog (convert 42 9 (.slice c d e)) false [(false,[.string])] fun f =>
 T.need ((((5+f.size):Nat):Int)≤(9223372036854775807:Int)) <|
 T.ret (.string (⟨#[109,97,114,107,32]⟩++f))
theorem kj (a:Int) (b:Int):aZ Tryz.prog [] Tryz.f29 [vI a,vI b]=gu a b:=by kernel_rfl
def fN (a:ByteArray):T :=
 T.call Tryz.prog 9 [.string a,vI 1000] false [(false,[.string])] fun b =>
 T.call Tryz.prog 10 [.string b] true [(true, [.slice 96, .slice 96, .slice 99, .slice 9]), (false, [.interface #[("Error", 85)]])] fun (c : Option Addr) (d : Nat) (e : Nat) (f : Option Addr) (g : Nat) (h : Nat) (i : Option Addr) (j : Nat) (k : Nat) (l : Option Addr) (m : Nat) (n : Nat) (o : Value) =>
 T.new [.slice none 0 0,.slice none 0 0,.slice none 0 0,.slice none 0 0] 27 fun p =>
 T.ao p [.slice c d e,.slice f g h,.slice i j k,.slice l m n] <|
 T.call Tryz.prog 10 [.string b] true [(true, [.slice 96, .slice 96, .slice 99, .slice 9]), (false, [.interface #[("Error", 85)]])] fun (q : Option Addr) (r : Nat) (s : Nat) (t : Option Addr) (u : Nat) (v : Nat) (w : Option Addr) (x : Nat) (y : Nat) (z : Option Addr) (A : Nat) (B : Nat) (C : Value) =>
 T.new [.slice none 0 0,.slice none 0 0,.slice none 0 0,.slice none 0 0] 27 fun D =>
 T.ao D [.slice q r s,.slice t u v,.slice w x y,.slice z A B] <|
 T.ae p [.slice 96,.slice 96,.slice 99,.slice 9] fun E F G H I J K L M N O P =>
 T.call Tryz.prog 25 [.agg #[.slice E F G,.slice H I J,.slice K L M,.slice N O P]] false [(true,[.slice 96,.slice 96,.slice 99,.slice 9])] fun Q R S U V W X Y Z a0 a1 a2 =>
 T.new [.slice none 0 0,.slice none 0 0,.slice none 0 0,.slice none 0 0] 27 fun a3 =>
 T.ao a3 [.slice Q R S,.slice U V W,.slice X Y Z,.slice a0 a1 a2] <|
 T.ae D [.slice 96,.slice 96,.slice 99,.slice 9] fun a4 a5 a6 a7 a8 a9 b0 b1 b2 b3 b4 b5 =>
 T.call Tryz.prog 26 [.agg #[.slice a4 a5 a6,.slice a7 a8 a9,.slice b0 b1 b2,.slice b3 b4 b5]] true [] <| T.ae p [.slice 96,.slice 96,.slice 99,.slice 9] fun b6 b7 b8 b9 c0 c1 c2 c3 c4 c5 c6 c7 =>
 T.ae a3 [.slice 96,.slice 96,.slice 99,.slice 9] fun c8 c9 d0 d1 d2 d3 d4 d5 d6 d7 d8 d9 =>
 T.call Tryz.prog 13 [.agg #[.slice b6 b7 b8,.slice b9 c0 c1,.slice c2 c3 c4,.slice c5 c6 c7],.agg #[.slice c8 c9 d0,.slice d1 d2 d3,.slice d4 d5 d6,.slice d7 d8 d9]] false [(false,[.bool])] fun e0 =>
 cond (!e0)
 (T.ret (.bool false))
 (T.call Tryz.prog 10 [.string b] true [(true, [.slice 96, .slice 96, .slice 99, .slice 9]), (false, [.interface #[("Error", 85)]])] fun (e1 : Option Addr) (e2 : Nat) (e3 : Nat) (e4 : Option Addr) (e5 : Nat) (e6 : Nat) (e7 : Option Addr) (e8 : Nat) (e9 : Nat) (f0 : Option Addr) (f1 : Nat) (f2 : Nat) (f3 : Value) =>
 T.new [.slice none 0 0,.slice none 0 0,.slice none 0 0,.slice none 0 0] 27 fun f4 =>
 T.ao f4 [.slice e1 e2 e3,.slice e4 e5 e6,.slice e7 e8 e9,.slice f0 f1 f2] <|
 T.new [.slice none 0 0,.slice none 0 0,vI 0,.bool false] 55 fun f5 =>
 T.ae p [.slice 96,.slice 96,.slice 99,.slice 9] fun f6 f7 f8 f9 g0 g1 g2 g3 g4 g5 g6 g7 =>
 T.call Tryz.prog 16 [.agg #[.slice f6 f7 f8,.slice f9 g0 g1,.slice g2 g3 g4,.slice g5 g6 g7]] false [(false,[.slice 9])] fun g8 g9 h0 =>
 T.call Tryz.prog 27 [.pointer (some f5),.slice g8 g9 h0] true [] <| T.ae p [.slice 96,.slice 96,.slice 99,.slice 9] fun h1 h2 h3 h4 h5 h6 h7 h8 h9 i0 i1 i2 =>
 T.call Tryz.prog 16 [.agg #[.slice h1 h2 h3,.slice h4 h5 h6,.slice h7 h8 h9,.slice i0 i1 i2]] false [(false,[.slice 9])] fun i3 i4 i5 =>
 T.call Tryz.prog 27 [.pointer (some f5),.slice i3 i4 i5] true [] <| T.all [ (T.aS Tryz.prog (Sx.bU (BinOp.eql) 29 (Operand.tmp 42) (Operand.const Value.nilIface) o .nilIface) false [(false,[.bool])] fun i6 =>
 T.aS Tryz.prog (Sx.bU (BinOp.eql) 29 (Operand.tmp 44) (Operand.const Value.nilIface) f3 .nilIface) false [(false,[.bool])] fun i7 =>
 cond (i6==i7)
 (T.ae f4 [.slice 96,.slice 96,.slice 99,.slice 9] fun i8 i9 j0 j1 j2 j3 j4 j5 j6 j7 j8 j9 =>
 T.ae a3 [.slice 96,.slice 96,.slice 99,.slice 9] fun k0 k1 k2 k3 k4 k5 k6 k7 k8 k9 l0 l1 =>
 T.call Tryz.prog 13 [.agg #[.slice i8 i9 j0,.slice j1 j2 j3,.slice j4 j5 j6,.slice j7 j8 j9],.agg #[.slice k0 k1 k2,.slice k3 k4 k5,.slice k6 k7 k8,.slice k9 l0 l1]] false [(false,[.bool])] fun l2 =>
 cond l2
 (T.call Tryz.prog 28 [.pointer (some f5),.func (Fn.func 29) #[] #[]] false [(false,[.bool])] fun l3 =>
 T.aB [(a3,[.slice k0 k1 k2,.slice k3 k4 k5,.slice k6 k7 k8,.slice k9 l0 l1]),(f4,[.slice i8 i9 j0,.slice j1 j2 j3,.slice j4 j5 j6,.slice j7 j8 j9])] <|
 cond l3
 (T.call Tryz.prog 14 [] false [(false,[.bool])] fun l4 =>
 T.aB [(a3,[.slice k0 k1 k2,.slice k3 k4 k5,.slice k6 k7 k8,.slice k9 l0 l1]),(f4,[.slice i8 i9 j0,.slice j1 j2 j3,.slice j4 j5 j6,.slice j7 j8 j9])] <|
 T.ret (.bool l4))
 (T.ret (.bool false)))
 (T.ret (.bool false)))
 (T.ret (.bool false))),
 (T.aS Tryz.prog (Sx.bU (BinOp.eql) 29 (Operand.tmp 44) (Operand.const Value.nilIface) f3 .nilIface) false [(false,[.bool])] fun i6 =>
 T.aS Tryz.prog (Sx.bU (BinOp.eql) 29 (Operand.tmp 42) (Operand.const Value.nilIface) o .nilIface) false [(false,[.bool])] fun i7 =>
 cond (i7==i6)
 (T.ae f4 [.slice 96,.slice 96,.slice 99,.slice 9] fun i8 i9 j0 j1 j2 j3 j4 j5 j6 j7 j8 j9 =>
 T.ae a3 [.slice 96,.slice 96,.slice 99,.slice 9] fun k0 k1 k2 k3 k4 k5 k6 k7 k8 k9 l0 l1 =>
 T.call Tryz.prog 13 [.agg #[.slice i8 i9 j0,.slice j1 j2 j3,.slice j4 j5 j6,.slice j7 j8 j9],.agg #[.slice k0 k1 k2,.slice k3 k4 k5,.slice k6 k7 k8,.slice k9 l0 l1]] false [(false,[.bool])] fun l2 =>
 cond l2
 (T.call Tryz.prog 28 [.pointer (some f5),.func (Fn.func 29) #[] #[]] false [(false,[.bool])] fun l3 =>
 T.aB [(a3,[.slice k0 k1 k2,.slice k3 k4 k5,.slice k6 k7 k8,.slice k9 l0 l1]),(f4,[.slice i8 i9 j0,.slice j1 j2 j3,.slice j4 j5 j6,.slice j7 j8 j9])] <|
 cond l3
 (T.call Tryz.prog 14 [] false [(false,[.bool])] fun l4 =>
 T.aB [(a3,[.slice k0 k1 k2,.slice k3 k4 k5,.slice k6 k7 k8,.slice k9 l0 l1]),(f4,[.slice i8 i9 j0,.slice j1 j2 j3,.slice j4 j5 j6,.slice j7 j8 j9])] <|
 T.ret (.bool l4))
 (T.ret (.bool false)))
 (T.ret (.bool false)))
 (T.ret (.bool false)))])
theorem jY (a:ByteArray):aZ Tryz.prog [] Tryz.f6 [.string a]=fN a:=by kernel_rfl
end Go.Sx
