/- Trees of functions, each checked by the kernel against the code. No condition. -/
import Derived.Test.YtfkjiiapldkoeaaGreatDoorSxF
import Derived.Test.YtfkjiiapldkoeaaGreatDoorProg
import Derived.KernelRfl
set_option linter.unusedVariables false
set_option linter.unusedSimpArgs false
set_option linter.deprecated false
set_option maxRecDepth 100000
namespace Go.Sx
open Go.Proofs
def vy (a:Option Addr) (b c:Nat) (d:Bool):T :=
 cond ((b:Int) != (1:Int))
 (T.ret (.tuple #[vI 0,vI 20]))
 (T.need (((0:Int)≤(0:Int))∧((0:Int)<(b:Int))) <|
 T.au a fun e =>
 T.ae e [.int .i64] fun f =>
 cond (f != (1:Int))
 (T.ret (.tuple #[vI 0,vI 20]))
 (T.need (((0:Int)≤(0:Int))∧((0:Int)<(b:Int))) <|
 T.au a fun g =>
 T.ae (g.add 1) [.string] fun h =>
 T.call Tryz.prog 81 [.string h] true [(false,[.int .i64]),(false,[.bool]),(false,[.bool])] fun i j k =>
 cond (!k)
 (T.ret (.tuple #[vI 0,vI 20]))
 (cond (!(j==d))
 (T.ret (.tuple #[vI 0,vI 20]))
 (T.ret (.tuple #[vI i,vI 0])))))
theorem xj (a:Option Addr) (b c:Nat) (d:Bool):aX Tryz.prog [] Tryz.f151 [.slice a b c,.bool d]=vy a b c d:=by kernel_rfl
def oY (a:Option Addr) (b c:Nat) (d:Int) (e:Int):T :=
 T.call Tryz.prog 130 [.slice a b c] true [(true,[.slice 109,.int .u32]),(false,[.int .i64])] fun f g h i j =>
 T.new [.slice none 0 0,.int .u32 0] 94 fun k =>
 T.ap k [.slice f g h,.int .u32 i] <|
 cond (j != (0:Int))
 (T.ret (.tuple #[vI 0,vI j]))
 (T.ae (k.add 1) [.int .u32] fun l =>
 T.ae k [.slice 109] fun m n o =>
 cond (decide ((n:Int)>(0:Int)))
 (T.ret (.tuple #[vI 0,vI 21]))
 (cond (decide ((IntKind.wrap .i64 (IntKind.wrap .i32 l))<d))
 (T.ret (.tuple #[vI 0,vI 21]))
 (cond (decide ((IntKind.wrap .i64 (IntKind.wrap .i32 l))>e))
 (T.ret (.tuple #[vI 0,vI 21]))
 (T.ret (.tuple #[vI (IntKind.wrap .i64 (IntKind.wrap .i32 l)),vI 0])))))
theorem sC (a:Option Addr) (b c:Nat) (d:Int) (e:Int):aX Tryz.prog [] Tryz.f127 [.slice a b c,vI d,vI e]=oY a b c d e:=by kernel_rfl
def tr (a:Option Addr) (b c:Nat):T :=
 cond ((b:Int) != (1:Int))
 (T.ret (.tuple #[.string ⟨#[]⟩,vI 20]))
 (T.need (((0:Int)≤(0:Int))∧((0:Int)<(b:Int))) <|
 T.au a fun d =>
 T.ae d [.int .i64] fun e =>
 cond (e != (1:Int))
 (T.ret (.tuple #[.string ⟨#[]⟩,vI 20]))
 (T.need (((0:Int)≤(0:Int))∧((0:Int)<(b:Int))) <|
 T.au a fun f =>
 T.ae (f.add 1) [.string] fun g =>
 T.call Tryz.prog 45 [.string g] false [(false,[.bool])] fun h =>
 cond (!h)
 (T.ret (.tuple #[.string ⟨#[]⟩,vI 20]))
 (T.need (((0:Int)≤(0:Int))∧((0:Int)<(b:Int))) <|
 T.au a fun i =>
 T.ae (i.add 1) [.string] fun j =>
 T.ret (.tuple #[.string j,vI 0]))))
theorem wo (a:Option Addr) (b c:Nat):aX Tryz.prog [] Tryz.f129 [.slice a b c]=tr a b c:=by kernel_rfl
def mJ (a:Int):T :=
 T.new [.bool false,.bool false,.bool false] 253 fun b =>
 T.new [.bool false,.bool false,.bool false] 253 fun c =>
 T.ap b [.bool false,.bool false,.bool false] <|
 T.ap c [.bool false,.bool true,.bool false] <|
 cond (a==(1:Int))
 (T.ret (.slice none 0 0))
 (cond (a==(2:Int))
 (T.ae b [.bool,.bool,.bool] fun d e f =>
 T.aY Tryz.prog (Instr.buildSlice 221 1 #[(0,.iface 253 (.agg #[.bool d,.bool e,.bool f]))]) false [(false,[.slice 0])] fun g h i =>
 T.ret (.slice g h i))
 (cond (a==(3:Int))
 (T.aY Tryz.prog (Instr.buildSlice 221 1 #[(0,.iface 253 (.agg #[.bool true,.bool false,.bool false]))]) false [(false,[.slice 0])] fun d e f =>
 T.ret (.slice d e f))
 (cond (a==(4:Int))
 (T.ae b [.bool,.bool,.bool] fun d e f =>
 T.ae c [.bool,.bool,.bool] fun g h i =>
 T.aY Tryz.prog (Instr.buildSlice 221 2 #[(0,.iface 253 (.agg #[.bool d,.bool e,.bool f])),(1,.iface 253 (.agg #[.bool g,.bool h,.bool i]))]) false [(false,[.slice 0])] fun j k l =>
 T.ret (.slice j k l))
 (cond (a==(5:Int))
 (T.aY Tryz.prog (Instr.buildSlice 221 2 #[(0,.iface 253 (.agg #[.bool true,.bool false,.bool false])),(1,.iface 253 (.agg #[.bool true,.bool true,.bool false]))]) false [(false,[.slice 0])] fun d e f =>
 T.ret (.slice d e f))
 (cond (a==(6:Int))
 (T.ae b [.bool,.bool,.bool] fun d e f =>
 T.aY Tryz.prog (Instr.buildSlice 221 2 #[(0,.iface 253 (.agg #[.bool d,.bool e,.bool f])),(1,.iface 253 (.agg #[.bool true,.bool true,.bool false]))]) false [(false,[.slice 0])] fun g h i =>
 T.ret (.slice g h i))
 (cond (a==(7:Int))
 (T.ae c [.bool,.bool,.bool] fun d e f =>
 T.aY Tryz.prog (Instr.buildSlice 221 3 #[(0,.iface 253 (.agg #[.bool true,.bool false,.bool false])),(1,.iface 253 (.agg #[.bool d,.bool e,.bool f])),(2,.iface 253 (.agg #[.bool false,.bool false,.bool true]))]) false [(false,[.slice 0])] fun g h i =>
 T.ret (.slice g h i))
 (cond (a==(8:Int))
 (T.ae b [.bool,.bool,.bool] fun d e f =>
 T.aY Tryz.prog (Instr.buildSlice 221 2 #[(0,.iface 253 (.agg #[.bool d,.bool e,.bool f])),(1,.iface 255 (.agg #[vI (-128:Int),vI 127]))]) false [(false,[.slice 0])] fun g h i =>
 T.ret (.slice g h i))
 (cond (a==(9:Int))
 (T.aY Tryz.prog (Instr.buildSlice 221 1 #[(0,.iface 255 (.agg #[vI 0,vI 255]))]) false [(false,[.slice 0])] fun d e f =>
 T.ret (.slice d e f))
 (cond (a==(11:Int))
 (T.ae b [.bool,.bool,.bool] fun d e f =>
 T.aY Tryz.prog (Instr.buildSlice 221 2 #[(0,.iface 253 (.agg #[.bool d,.bool e,.bool f])),(1,.iface 257 (.agg #[.bool true]))]) false [(false,[.slice 0])] fun g h i =>
 T.ret (.slice g h i))
 (cond (a==(12:Int))
 (T.aY Tryz.prog (Instr.buildSlice 221 1 #[(0,.iface 257 (.agg #[.bool false]))]) false [(false,[.slice 0])] fun d e f =>
 T.ret (.slice d e f))
 (T.ae b [.bool,.bool,.bool] fun d e f =>
 T.aY Tryz.prog (Instr.buildSlice 221 2 #[(0,.iface 253 (.agg #[.bool d,.bool e,.bool f])),(1,.iface 257 (.agg #[.bool false]))]) false [(false,[.slice 0])] fun g h i =>
 T.ret (.slice g h i))))))))))))
theorem rF (a:Int):aX Tryz.prog [] Tryz.f124 [vI a]=mJ a:=by kernel_rfl
def lQ (a:Option Addr) (b:Value) (c:Option Addr) (d e:Nat):T :=
 T.aY Tryz.prog (Instr.typeAssert b 20 253 true) true [(true,[.bool,.bool,.bool]),(false,[.bool])] fun f g h i =>
 cond i
 (T.new [.bool false,.bool false,.bool false] 253 fun j =>
 T.ap j [.bool f,.bool g,.bool h] <|
 T.ae j [.bool] fun k =>
 T.call Tryz.prog 151 [.slice c d e,.bool k] true [(false,[.int .i64]),(false,[.int .i64])] fun l m =>
 T.ae (j.add 2) [.bool] fun n =>
 cond n
 (T.au a fun o =>
 T.ap ((o.add 2).add 3) [.int .i32 (IntKind.wrap .i32 l)] <|
 T.ret (vI m))
 (T.ae (j.add 1) [.bool] fun o =>
 cond o
 (T.au a fun p =>
 T.ap ((p.add 2).add 2) [vI l] <|
 T.ret (vI m))
 (T.au a fun p =>
 T.ap ((p.add 2).add 1) [vI l] <|
 T.ret (vI m))))
 (T.aY Tryz.prog (Instr.typeAssert b 20 255 true) true [(true,[.int .i64,.int .i64]),(false,[.bool])] fun j k l =>
 cond l
 (T.new [vI 0,vI 0] 255 fun m =>
 T.ap m [vI j,vI k] <|
 T.ae m [.int .i64] fun n =>
 T.ae (m.add 1) [.int .i64] fun o =>
 T.call Tryz.prog 127 [.slice c d e,vI n,vI o] true [(false,[.int .i64]),(false,[.int .i64])] fun p q =>
 T.au a fun r =>
 T.ap ((r.add 2).add 3) [.int .i32 (IntKind.wrap .i32 p)] <|
 T.ret (vI q))
 (T.aY Tryz.prog (Instr.typeAssert b 20 257 true) true [(true,[.bool]),(false,[.bool])] fun m n =>
 cond n
 (T.new [.bool false] 257 fun o =>
 T.ap o [.bool m] <|
 T.ae o [.bool] fun p =>
 cond p
 (cond ((d:Int)==(0:Int))
 (T.ret (vI 20))
 (T.need (((0:Int)≤(0:Int))∧((0:Int)<(d:Int))) <|
 T.au c fun q =>
 T.ae q [.int .i64] fun r =>
 cond (r != (3:Int))
 (T.ret (vI 20))
 (T.need (((0:Int)≤(0:Int))∧((0:Int)<(d:Int))) <|
 T.au c fun s =>
 T.ae (s.add 1) [.string] fun t =>
 cond (!((ByteArray.toList t)==[({ toBitVec:=61#8 })]))
 (T.ret (vI 20))
 (T.need (((0:Int)≤(1:Int))∧(((1:Int)≤(d:Int))∧((d:Int)≤(e:Int)))) <|
 T.call Tryz.prog 130 [.slice (if (e=1) then c else (Option.map (fun u=>Addr.add u 4) c)) ((Int.toNat (d:Int))-1) (e-1)] true [(true,[.slice 109,.int .u32]),(false,[.int .i64])] fun u v w x y =>
 T.au a fun z =>
 T.ap (z.add 7) [.slice u v w,.int .u32 x] <|
 T.ret (vI y)))))
 (T.call Tryz.prog 130 [.slice c d e] true [(true,[.slice 109,.int .u32]),(false,[.int .i64])] fun q r s t u =>
 T.au a fun v =>
 T.ap (v.add 7) [.slice q r s,.int .u32 t] <|
 T.ret (vI u)))
 (T.ret (vI 0))))
theorem pP (a:Option Addr) (b:Value) (c:Option Addr) (d e:Nat):aX Tryz.prog [] Tryz.f125 [.pointer a,b,.slice c d e]=lQ a b c d e:=by kernel_rfl
def pu (a:ByteArray):T :=
 cond ((ByteArray.toList a)==[({ toBitVec:=112#8 }),({ toBitVec:=111#8 }),({ toBitVec:=111#8 }),({ toBitVec:=108#8 })])
 (T.ret (.tuple #[vI 0,.bool true]))
 (cond ((ByteArray.toList a)==[({ toBitVec:=97#8 }),({ toBitVec:=108#8 }),({ toBitVec:=105#8 }),({ toBitVec:=103#8 }),({ toBitVec:=110#8 })])
 (cond ((ByteArray.toList a)==[({ toBitVec:=97#8 }),({ toBitVec:=108#8 }),({ toBitVec:=105#8 }),({ toBitVec:=103#8 }),({ toBitVec:=110#8 })])
 (T.ret (.tuple #[vI 1,.bool true]))
 (cond ((ByteArray.toList a)==[({ toBitVec:=101#8 }),({ toBitVec:=113#8 }),({ toBitVec:=117#8 })])
 (T.ret (.tuple #[vI 2,.bool true]))
 (cond ((ByteArray.toList a)==[({ toBitVec:=98#8 }),({ toBitVec:=121#8 }),({ toBitVec:=116#8 }),({ toBitVec:=101#8 })])
 (cond ((ByteArray.toList a)==[({ toBitVec:=98#8 }),({ toBitVec:=121#8 }),({ toBitVec:=116#8 }),({ toBitVec:=101#8 })])
 (T.ret (.tuple #[vI (-1:Int),.bool true]))
 (T.ret (.tuple #[vI 0,.bool false])))
 (cond ((ByteArray.toList a)==[({ toBitVec:=119#8 }),({ toBitVec:=111#8 }),({ toBitVec:=114#8 }),({ toBitVec:=100#8 })])
 (T.ret (.tuple #[vI (-1:Int),.bool true]))
 (T.ret (.tuple #[vI 0,.bool false]))))))
 (cond ((ByteArray.toList a)==[({ toBitVec:=115#8 }),({ toBitVec:=112#8 }),({ toBitVec:=97#8 }),({ toBitVec:=99#8 }),({ toBitVec:=101#8 })])
 (cond ((ByteArray.toList a)==[({ toBitVec:=115#8 }),({ toBitVec:=112#8 }),({ toBitVec:=97#8 }),({ toBitVec:=99#8 }),({ toBitVec:=101#8 })])
 (T.ret (.tuple #[vI 1,.bool true]))
 (cond ((ByteArray.toList a)==[({ toBitVec:=101#8 }),({ toBitVec:=113#8 }),({ toBitVec:=117#8 })])
 (T.ret (.tuple #[vI 2,.bool true]))
 (cond ((ByteArray.toList a)==[({ toBitVec:=98#8 }),({ toBitVec:=121#8 }),({ toBitVec:=116#8 }),({ toBitVec:=101#8 })])
 (cond ((ByteArray.toList a)==[({ toBitVec:=98#8 }),({ toBitVec:=121#8 }),({ toBitVec:=116#8 }),({ toBitVec:=101#8 })])
 (T.ret (.tuple #[vI (-1:Int),.bool true]))
 (T.ret (.tuple #[vI 0,.bool false])))
 (cond ((ByteArray.toList a)==[({ toBitVec:=119#8 }),({ toBitVec:=111#8 }),({ toBitVec:=114#8 }),({ toBitVec:=100#8 })])
 (T.ret (.tuple #[vI (-1:Int),.bool true]))
 (T.ret (.tuple #[vI 0,.bool false]))))))
 (cond ((ByteArray.toList a)==[({ toBitVec:=103#8 }),({ toBitVec:=108#8 }),({ toBitVec:=111#8 }),({ toBitVec:=98#8 }),({ toBitVec:=97#8 }),({ toBitVec:=108#8 })])
 (cond ((ByteArray.toList a)==[({ toBitVec:=103#8 }),({ toBitVec:=108#8 }),({ toBitVec:=111#8 }),({ toBitVec:=98#8 }),({ toBitVec:=97#8 }),({ toBitVec:=108#8 })])
 (T.ret (.tuple #[vI 1,.bool true]))
 (cond ((ByteArray.toList a)==[({ toBitVec:=101#8 }),({ toBitVec:=113#8 }),({ toBitVec:=117#8 })])
 (T.ret (.tuple #[vI 2,.bool true]))
 (cond ((ByteArray.toList a)==[({ toBitVec:=98#8 }),({ toBitVec:=121#8 }),({ toBitVec:=116#8 }),({ toBitVec:=101#8 })])
 (cond ((ByteArray.toList a)==[({ toBitVec:=98#8 }),({ toBitVec:=121#8 }),({ toBitVec:=116#8 }),({ toBitVec:=101#8 })])
 (T.ret (.tuple #[vI (-1:Int),.bool true]))
 (T.ret (.tuple #[vI 0,.bool false])))
 (cond ((ByteArray.toList a)==[({ toBitVec:=119#8 }),({ toBitVec:=111#8 }),({ toBitVec:=114#8 }),({ toBitVec:=100#8 })])
 (T.ret (.tuple #[vI (-1:Int),.bool true]))
 (T.ret (.tuple #[vI 0,.bool false]))))))
 (cond ((ByteArray.toList a)==[({ toBitVec:=115#8 }),({ toBitVec:=101#8 }),({ toBitVec:=99#8 }),({ toBitVec:=116#8 }),({ toBitVec:=105#8 }),({ toBitVec:=111#8 }),({ toBitVec:=110#8 })])
 (T.ret (.tuple #[vI 1,.bool true]))
 (cond ((ByteArray.toList a)==[({ toBitVec:=101#8 }),({ toBitVec:=113#8 }),({ toBitVec:=117#8 })])
 (T.ret (.tuple #[vI 2,.bool true]))
 (cond ((ByteArray.toList a)==[({ toBitVec:=98#8 }),({ toBitVec:=121#8 }),({ toBitVec:=116#8 }),({ toBitVec:=101#8 })])
 (cond ((ByteArray.toList a)==[({ toBitVec:=98#8 }),({ toBitVec:=121#8 }),({ toBitVec:=116#8 }),({ toBitVec:=101#8 })])
 (T.ret (.tuple #[vI (-1:Int),.bool true]))
 (T.ret (.tuple #[vI 0,.bool false])))
 (cond ((ByteArray.toList a)==[({ toBitVec:=119#8 }),({ toBitVec:=111#8 }),({ toBitVec:=114#8 }),({ toBitVec:=100#8 })])
 (T.ret (.tuple #[vI (-1:Int),.bool true]))
 (T.ret (.tuple #[vI 0,.bool false])))))))))
theorem sw (a:ByteArray):aX Tryz.prog [] Tryz.f126 [.string a]=pu a:=by kernel_rfl
def rN (a:Int) (b:Option Addr) (c d:Nat):T :=
 cond ((c:Int)==(0:Int))
 (T.ret (.tuple #[.slice none 0 0,vI 20]))
 (T.loop [(false,[.slice 0]),(false,[.int .i64]),(false,[.slice 0]),(false,[.int .i64])] [.slice none 0 0,vI 0,.slice none 0 0,vI 0] fun e f g h i j k l =>
 cond (decide (l<(c:Int)))
 (T.need (((0:Int)≤l)∧(l<(c:Int))) <|
 T.au b fun m =>
 T.ae (m.add ((Int.toNat l)*1)) [.slice 178] fun n o p =>
 T.new [vI 0,.string ⟨#[]⟩,vI 0,vI 0,vI 0,.int .i32 0,vI 0,.slice none 0 0,.int .u32 0,vI 0] 96 fun q =>
 T.ap q [vI a,.string ⟨#[]⟩,vI 0,vI 0,vI 0,.int .i32 0,vI 0,.slice none 0 0,.int .u32 0,vI 0] <|
 cond (a==(5:Int))
 (T.call Tryz.prog 127 [.slice n o p,vI (-128:Int),vI 255] true [(false,[.int .i64]),(false,[.int .i64])] fun r s =>
 T.ap (q.add 9) [vI r] <|
 cond (s != (0:Int))
 (T.ret (.tuple #[.slice none 0 0,vI s]))
 (T.ae q yI fun t u v w x y z A B C D E =>
 T.aY Tryz.prog (Instr.buildSlice 23 1 #[(0,.agg #[vI t,.string u,vI v,vI w,vI x,.int .i32 y,vI z,.slice A B C,.int .u32 D,vI E])]) false [(false,[.slice 0])] fun F G H =>
 T.aY Tryz.prog (Builtin.append_ #[23,23] 23 #[.slice i j k,.slice F G H]) false [(false,[.slice 0])] fun I J K =>
 T.again 0 [.slice e f g,vI h,.slice I J K,vI (IntKind.wrap .i64 (l+(1:Int)))]))
 (T.call Tryz.prog 130 [.slice n o p] true [(true,[.slice 109,.int .u32]),(false,[.int .i64])] fun r s t u v =>
 T.ap (q.add 7) [.slice r s t,.int .u32 u] <|
 cond (v != (0:Int))
 (T.ret (.tuple #[.slice none 0 0,vI v]))
 (T.ae q yI fun w x y z A B C D E F G H =>
 T.aY Tryz.prog (Instr.buildSlice 23 1 #[(0,.agg #[vI w,.string x,vI y,vI z,vI A,.int .i32 B,vI C,.slice D E F,.int .u32 G,vI H])]) false [(false,[.slice 0])] fun I J K =>
 T.aY Tryz.prog (Builtin.append_ #[23,23] 23 #[.slice i j k,.slice I J K]) false [(false,[.slice 0])] fun L M N =>
 T.again 0 [.slice e f g,vI h,.slice L M N,vI (IntKind.wrap .i64 (l+(1:Int)))])))
 (T.ret (.tuple #[.slice i j k,vI 0])))
theorem tN (a:Int) (b:Option Addr) (c d:Nat):aX Tryz.prog [] Tryz.f128 [vI a,.slice b c d]=rN a b c d:=by kernel_rfl
def uH (a:ByteArray):T :=
 T.ae ⟨1,0,none⟩ [.string,.int .u8,.int .i64,.string,.int .u8,.int .i64,.string,.int .u8,.int .i64,.string,.int .u8,.int .i64,.string,.int .u8,.int .i64,.string,.int .u8,.int .i64,.string,.int .u8,.int .i64,.string,.int .u8,.int .i64,.string,.int .u8,.int .i64,.string,.int .u8,.int .i64,.string,.int .u8,.int .i64,.string,.int .u8,.int .i64,.string,.int .u8,.int .i64,.string,.int .u8,.int .i64,.string,.int .u8,.int .i64,.string,.int .u8,.int .i64,.string,.int .u8,.int .i64,.string,.int .u8,.int .i64,.string,.int .u8,.int .i64,.string,.int .u8,.int .i64,.string,.int .u8,.int .i64,.string,.int .u8,.int .i64,.string,.int .u8,.int .i64,.string,.int .u8,.int .i64,.string,.int .u8,.int .i64,.string,.int .u8,.int .i64,.string,.int .u8,.int .i64,.string,.int .u8,.int .i64,.string,.int .u8,.int .i64,.string,.int .u8,.int .i64,.string,.int .u8,.int .i64,.string,.int .u8,.int .i64,.string,.int .u8,.int .i64,.string,.int .u8,.int .i64,.string,.int .u8,.int .i64,.string,.int .u8,.int .i64,.string,.int .u8,.int .i64,.string,.int .u8,.int .i64,.string,.int .u8,.int .i64,.string,.int .u8,.int .i64,.string,.int .u8,.int .i64,.string,.int .u8,.int .i64,.string,.int .u8,.int .i64] fun b c d e f g h i j k l m n o p q r s t u v w x y z A B C D E F G H I J K L M N O P Q R S U V W X Y Z a0 a1 a2 a3 a4 a5 a6 a7 a8 a9 b0 b1 b2 b3 b4 b5 b6 b7 b8 b9 c0 c1 c2 c3 c4 c5 c6 c7 c8 c9 d0 d1 d2 d3 d4 d5 d6 d7 d8 d9 e0 e1 e2 e3 e4 e5 e6 e7 e8 e9 f0 f1 f2 f3 f4 f5 f6 f7 f8 f9 g0 g1 g2 g3 g4 g5 g6 g7 g8 g9 h0 h1 h2 h3 h4 h5 h6 h7 h8 =>
 T.loop [(false,[.int .i64]),(false,[.bool]),(false,[.int .i64])] [vI 0,.bool false,vI 0] fun h9 i0 i1 =>
 cond (decide (i1<(43:Int)))
 (T.aY Tryz.prog (Instr.index 215 (.agg #[.string b,.int .u8 c,vI d,.string e,.int .u8 f,vI g,.string h,.int .u8 i,vI j,.string k,.int .u8 l,vI m,.string n,.int .u8 o,vI p,.string q,.int .u8 r,vI s,.string t,.int .u8 u,vI v,.string w,.int .u8 x,vI y,.string z,.int .u8 A,vI B,.string C,.int .u8 D,vI E,.string F,.int .u8 G,vI H,.string I,.int .u8 J,vI K,.string L,.int .u8 M,vI N,.string O,.int .u8 P,vI Q,.string R,.int .u8 S,vI U,.string V,.int .u8 W,vI X,.string Y,.int .u8 Z,vI a0,.string a1,.int .u8 a2,vI a3,.string a4,.int .u8 a5,vI a6,.string a7,.int .u8 a8,vI a9,.string b0,.int .u8 b1,vI b2,.string b3,.int .u8 b4,vI b5,.string b6,.int .u8 b7,vI b8,.string b9,.int .u8 c0,vI c1,.string c2,.int .u8 c3,vI c4,.string c5,.int .u8 c6,vI c7,.string c8,.int .u8 c9,vI d0,.string d1,.int .u8 d2,vI d3,.string d4,.int .u8 d5,vI d6,.string d7,.int .u8 d8,vI d9,.string e0,.int .u8 e1,vI e2,.string e3,.int .u8 e4,vI e5,.string e6,.int .u8 e7,vI e8,.string e9,.int .u8 f0,vI f1,.string f2,.int .u8 f3,vI f4,.string f5,.int .u8 f6,vI f7,.string f8,.int .u8 f9,vI g0,.string g1,.int .u8 g2,vI g3,.string g4,.int .u8 g5,vI g6,.string g7,.int .u8 g8,vI g9,.string h0,.int .u8 h1,vI h2,.string h3,.int .u8 h4,vI h5,.string h6,.int .u8 h7,vI h8]) (vI i1)) false [(true,[.string,.int .u8,.int .i64])] fun i2 i3 i4 =>
 T.new [.string ⟨#[]⟩,.int .u8 0,vI 0] 158 fun i5 =>
 T.ap i5 [.string i2,.int .u8 i3,vI i4] <|
 T.ae i5 [.string] fun i6 =>
 cond ((ByteArray.toList i6)==(ByteArray.toList a))
 (T.ret (.tuple #[vI (IntKind.wrap .i64 (i1+(1:Int))),.bool true]))
 (T.again 0 [vI h9,.bool i0,vI (IntKind.wrap .i64 (i1+(1:Int)))]))
 (T.ret (.tuple #[vI 0,.bool false]))
theorem xn (a:ByteArray):aX Tryz.prog [] Tryz.f98 [.string a]=uH a:=by kernel_rfl
end Go.Sx
