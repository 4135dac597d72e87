/- Trees of functions, each checked by the kernel against the code. No condition. -/
import Derived.Test.YtfkjiiapldkoeaaGreatDoorSxF
import Derived.Test.YtfkjiiapldkoeaaGreatDoorProg
import Derived.KernelRfl
set_option linter.unusedVariables false
set_option linter.unusedSimpArgs false
set_option linter.deprecated false
set_option maxRecDepth 100000
namespace Go.Sx
open Go.Proofs
def tJ (a:Option Nat) (b:Int):T :=
 T.new [.slice none 0 0,.int .u32 0] 94 fun c =>
 T.new [.slice none 0 0,.int .u32 0] 94 fun d =>
 T.ap d [.slice none 0 0,.int .u32 b] <|
 T.call Tryz.prog 193 [.map a] false [(false,[.func #[39] #[] false])] fun (e:Value) =>
 T.call Tryz.prog 34 [e] false [(false,[.slice 9])] fun f g h =>
 T.loop [(false,[.int .i64])] [vI 0] fun i =>
 cond (decide (i<(g:Int)))
 (T.aJ (((0:Int)≤i)∧(i<(g:Int))) <|
 T.av f fun j =>
 T.ae (j.add ((Int.toNat i)*1)) [.string] fun k =>
 T.bj Tryz.prog (Instr.lookup 286 (.map a) (.string k) false) false [(false,[.int .u32])] fun l =>
 cond (l != (0:Int))
 (T.ae d [.slice 109] fun m n o =>
 T.bj Tryz.prog (Instr.lookup 286 (.map a) (.string k) false) false [(false,[.int .u32])] fun p =>
 T.bj Tryz.prog (Instr.buildSlice 91 1 #[(0,.agg #[.string k,.int .u32 p])]) false [(false,[.slice 0])] fun q r s =>
 T.bj Tryz.prog (Builtin.append_ #[91,91] 91 #[.slice m n o,.slice q r s]) false [(false,[.slice 0])] fun t u v =>
 T.ap d [.slice t u v] <|
 T.again 0 [vI (IntKind.wrap .i64 (i+(1:Int)))])
 (T.again 0 [vI (IntKind.wrap .i64 (i+(1:Int)))]))
 (T.ae d [.slice 109,.int .u32] fun j k l m =>
 T.ap c [.slice j k l,.int .u32 m] <|
 T.ae c [.slice 109,.int .u32] fun n o p q =>
 T.ret (.agg #[.slice n o p,.int .u32 q]))
theorem w8 (a:Option Nat) (b:Int):aV Tryz.prog [] Tryz.f179 [.map a,.int .u32 b]=tJ a b:=by kernel_rfl
def xf (a:Option Addr) (b c:Nat) (d:Int) (e:Option Addr) (f g:Nat) (h:Int):T :=
 T.new [.slice a b c,.int .u32 d] 94 fun i =>
 T.new [.slice e f g,.int .u32 h] 94 fun j =>
 T.new [.slice none 0 0,.int .u32 0] 94 fun k =>
 T.bj Tryz.prog (Instr.makeMap 286 none) false [(false,[.map 0 0])] fun l =>
 T.ae i [.slice 109] fun m n o =>
 T.ae j [.slice 109] fun p q r =>
 T.bj Tryz.prog (Instr.buildSlice 288 2 #[(0,.slice m n o),(1,.slice p q r)]) false [(false,[.slice 0])] fun s t u =>
 T.loop [(false,[.int .i64])] [vI 0] fun v =>
 cond (decide (v<(t:Int)))
 (T.aJ (((0:Int)≤v)∧(v<(t:Int))) <|
 T.av s fun w =>
 T.ae (w.add ((Int.toNat v)*1)) [.slice 109] fun x y z =>
 T.loop [(false,[.int .i64])] [vI 0] fun A =>
 cond (decide (A<(y:Int)))
 (T.aJ (((0:Int)≤A)∧(A<(y:Int))) <|
 T.av x fun B =>
 T.ae (B.add ((Int.toNat A)*2)) [.string,.int .u32] fun C D =>
 T.new [.string ⟨#[]⟩,.int .u32 0] 109 fun E =>
 T.ap E [.string C,.int .u32 D] <|
 T.ae E [.string] fun F =>
 T.bj Tryz.prog (Instr.lookup 286 (.map l) (.string F) false) false [(false,[.int .u32])] fun G =>
 T.ae (E.add 1) [.int .u32] fun H =>
 T.mQ Tryz.prog (Instr.mapUpdate 286 (.map l) (.string F) (.int .u32 (IntKind.wrap .u32 (G+H)))) <|
 T.again 1 [vI (IntKind.wrap .i64 (A+(1:Int)))])
 (T.again 0 [vI (IntKind.wrap .i64 (v+(1:Int)))]))
 (T.ae (i.add 1) [.int .u32] fun w =>
 T.ae (j.add 1) [.int .u32] fun x =>
 T.call Tryz.prog 179 [.map l,.int .u32 (IntKind.wrap .u32 (w+x))] false [(true,[.slice 109,.int .u32])] fun y z A B =>
 T.ap k [.slice y z A,.int .u32 B] <|
 T.ae k [.slice 109,.int .u32] fun C D E F =>
 T.ret (.agg #[.slice C D E,.int .u32 F]))
theorem xI (a:Option Addr) (b c:Nat) (d:Int) (e:Option Addr) (f g:Nat) (h:Int):aV Tryz.prog [] Tryz.f159 [.agg #[.slice a b c,.int .u32 d],.agg #[.slice e f g,.int .u32 h]]=xf a b c d e f g h:=by kernel_rfl
def rT (a:Option Addr) (b c:Nat) (d:Int) (e:Int):T :=
 T.new [.slice a b c,.int .u32 d] 94 fun f =>
 T.new [.slice none 0 0,.int .u32 0] 94 fun g =>
 T.bj Tryz.prog (Instr.makeMap 286 none) false [(false,[.map 0 0])] fun h =>
 T.ae f [.slice 109] fun i j k =>
 T.loop [(false,[.int .i64])] [vI 0] fun l =>
 cond (decide (l<(j:Int)))
 (T.aJ (((0:Int)≤l)∧(l<(j:Int))) <|
 T.av i fun m =>
 T.ae (m.add ((Int.toNat l)*2)) [.string,.int .u32] fun n o =>
 T.new [.string ⟨#[]⟩,.int .u32 0] 109 fun p =>
 T.ap p [.string n,.int .u32 o] <|
 T.ae p [.string] fun q =>
 T.bj Tryz.prog (Instr.lookup 286 (.map h) (.string q) false) false [(false,[.int .u32])] fun r =>
 T.ae (p.add 1) [.int .u32] fun s =>
 T.mQ Tryz.prog (Instr.mapUpdate 286 (.map h) (.string q) (.int .u32 (IntKind.wrap .u32 (r+(IntKind.wrap .u32 (s*e)))))) <|
 T.again 0 [vI (IntKind.wrap .i64 (l+(1:Int)))])
 (T.ae (f.add 1) [.int .u32] fun m =>
 T.call Tryz.prog 179 [.map h,.int .u32 (IntKind.wrap .u32 (m*e))] false [(true,[.slice 109,.int .u32])] fun n o p q =>
 T.ap g [.slice n o p,.int .u32 q] <|
 T.ae g [.slice 109,.int .u32] fun r s t u =>
 T.ret (.agg #[.slice r s t,.int .u32 u]))
theorem uy (a:Option Addr) (b c:Nat) (d:Int) (e:Int):aV Tryz.prog [] Tryz.f156 [.agg #[.slice a b c,.int .u32 d],.int .u32 e]=rT a b c d e:=by kernel_rfl
def ij (a:Option Addr) (b c:Nat) (d:Int):T :=
 T.new [.slice a b c,.int .u32 d] 94 fun e =>
 T.loop [(false,[.bool]),(false,[.int .i64])] [.bool false,vI 0] fun f g =>
 T.ae e [.slice 109] fun h i j =>
 cond (decide (g<(i:Int)))
 (T.ae e [.slice 109] fun k l m =>
 T.aJ (((0:Int)≤g)∧(g<(l:Int))) <|
 T.av k fun n =>
 T.ae (n.add ((Int.toNat g)*2)) [.string] fun o =>
 T.call Tryz.prog 48 [.string o] false [(false,[.bool])] fun p =>
 T.aM [(e,[.slice k l m])] <|
 cond (!p)
 (T.ret (.bool false))
 (T.ae e [.slice 109] fun q r s =>
 T.aJ (((0:Int)≤g)∧(g<(r:Int))) <|
 T.av q fun t =>
 T.ae ((t.add ((Int.toNat g)*2)).add 1) [.int .u32] fun u =>
 cond (u==(0:Int))
 (T.ret (.bool false))
 (cond (decide (g>(0:Int)))
 (T.ae e [.slice 109] fun v w x =>
 T.aJ (((0:Int)≤g)∧(g<(w:Int))) <|
 T.av v fun y =>
 T.ae (y.add ((Int.toNat g)*2)) [.string] fun z =>
 T.ae e [.slice 109] fun A B C =>
 T.aJ (((0:Int)≤(IntKind.wrap .i64 (g-(1:Int))))∧((IntKind.wrap .i64 (g-(1:Int)))<(B:Int))) <|
 T.av A fun D =>
 T.ae (D.add ((Int.toNat (IntKind.wrap .i64 (g-(1:Int))))*2)) [.string] fun E =>
 cond ((Op.bytesLess (ByteArray.toList z) (ByteArray.toList E)) || ((ByteArray.toList z)==(ByteArray.toList E)))
 (T.ret (.bool false))
 (T.again 0 [.bool f,vI (IntKind.wrap .i64 (g+(1:Int)))]))
 (T.again 0 [.bool f,vI (IntKind.wrap .i64 (g+(1:Int)))]))))
 (T.ret (.bool true))
theorem kU (a:Option Addr) (b c:Nat) (d:Int):aV Tryz.prog [] Tryz.f49 [.agg #[.slice a b c,.int .u32 d]]=ij a b c d:=by kernel_rfl
def rh (a:Option Addr) (b c:Nat) (d:Int):T :=
 T.new [.slice a b c,.int .u32 d] 94 fun e =>
 T.ae e [.slice 109] fun f g h =>
 T.loop [(false,[.bool]),(false,[.int .i64])] [.bool false,vI 0] fun i j =>
 cond (decide (j<(g:Int)))
 (T.aJ (((0:Int)≤j)∧(j<(g:Int))) <|
 T.av f fun k =>
 T.ae (k.add ((Int.toNat j)*2)) [.string,.int .u32] fun l m =>
 T.new [.string ⟨#[]⟩,.int .u32 0] 109 fun n =>
 T.ap n [.string l,.int .u32 m] <|
 T.ae (n.add 1) [.int .u32] fun o =>
 cond (o==(0:Int))
 (T.ret (.bool false))
 (T.ae n [.string] fun p =>
 T.call Tryz.prog 45 [.string p] false [(false,[.bool])] fun q =>
 T.aM [((n.add 1),[.int .u32 o])] <|
 cond (!q)
 (T.ret (.bool false))
 (cond (decide (j>(0:Int)))
 (T.ae n [.string] fun r =>
 T.ae e [.slice 109] fun s t u =>
 T.aJ (((0:Int)≤(IntKind.wrap .i64 (j-(1:Int))))∧((IntKind.wrap .i64 (j-(1:Int)))<(t:Int))) <|
 T.av s fun v =>
 T.ae (v.add ((Int.toNat (IntKind.wrap .i64 (j-(1:Int))))*2)) [.string] fun w =>
 cond ((Op.bytesLess (ByteArray.toList r) (ByteArray.toList w)) || ((ByteArray.toList r)==(ByteArray.toList w)))
 (T.ret (.bool false))
 (T.again 0 [.bool i,vI (IntKind.wrap .i64 (j+(1:Int)))]))
 (T.again 0 [.bool i,vI (IntKind.wrap .i64 (j+(1:Int)))]))))
 (T.ret (.bool true))
theorem uz (a:Option Addr) (b c:Nat) (d:Int):aV Tryz.prog [] Tryz.f46 [.agg #[.slice a b c,.int .u32 d]]=rh a b c d:=by kernel_rfl
def tR (a:Option Addr) (b c:Nat) (d:Int) (e:Option Addr) (f g:Nat) (h:Int):T :=
 T.new [.slice a b c,.int .u32 d] 94 fun i =>
 T.new [.slice e f g,.int .u32 h] 94 fun j =>
 T.ae (i.add 1) [.int .u32] fun k =>
 T.ae (j.add 1) [.int .u32] fun l =>
 cond (k==l)
 (T.ae i [.slice 109] fun m n o =>
 T.ae j [.slice 109] fun p q r =>
 T.call Tryz.prog 117 [.slice m n o,.slice p q r] false [(false,[.bool])] fun s =>
 T.ret (.bool s))
 (T.ret (.bool false))
theorem wA (a:Option Addr) (b c:Nat) (d:Int) (e:Option Addr) (f g:Nat) (h:Int):aV Tryz.prog [] Tryz.f80 [.agg #[.slice a b c,.int .u32 d],.agg #[.slice e f g,.int .u32 h]]=tR a b c d e f g h:=by kernel_rfl
def rA (a:ByteArray):T :=
 T.new [.slice none 0 0,.int .u32 0] 94 fun b =>
 T.bj Tryz.prog (Instr.buildSlice 91 1 #[(0,.agg #[.string a,.int .u32 1])]) false [(false,[.slice 0])] fun c d e =>
 T.ap b [.slice c d e,.int .u32 0] <|
 T.ae b [.slice 109,.int .u32] fun f g h i =>
 T.ret (.agg #[.slice f g h,.int .u32 i])
theorem uv (a:ByteArray):aV Tryz.prog [] Tryz.f155 [.string a]=rA a:=by kernel_rfl
def cX (a:Option Addr) (b c:Nat) (d:Option Addr) (e f:Nat):T :=
 cond ((b:Int) != (e:Int))
 (T.ret (.bool false))
 (T.loop [(false,[.bool]),(false,[.int .i64])] [.bool false,vI 0] fun g h =>
 cond (decide (h<(b:Int)))
 (T.aJ (((0:Int)≤h)∧(h<(b:Int))) <|
 T.av a fun i =>
 T.ae (i.add ((Int.toNat h)*2)) [.string,.int .u32] fun j k =>
 T.aJ (((0:Int)≤h)∧(h<(e:Int))) <|
 T.av d fun l =>
 T.ae (l.add ((Int.toNat h)*2)) [.string,.int .u32] fun m n =>
 T.bj Tryz.prog (Sx.bX (BinOp.neq) 109 (Operand.tmp 19) (Operand.tmp 23) (.agg #[.string j,.int .u32 k]) (.agg #[.string m,.int .u32 n])) false [(false,[.bool])] fun o =>
 cond o
 (T.ret (.bool false))
 (T.again 0 [.bool g,vI (IntKind.wrap .i64 (h+(1:Int)))]))
 (T.ret (.bool true)))
theorem eF (a:Option Addr) (b c:Nat) (d:Option Addr) (e f:Nat):aV Tryz.prog [] Tryz.f117 [.slice a b c,.slice d e f]=cX a b c d e f:=by kernel_rfl
def iV (a:Option Addr) (b:ByteArray):T :=
 T.av a fun c =>
 T.ae (c.add 2) [.int .i64] fun d =>
 cond (d != (0:Int))
 (T.ret (.bool false))
 (T.av a fun e =>
 T.ae e [.slice 178] fun f g h =>
 cond ((g:Int)==(0:Int))
 (T.ret (.bool false))
 (T.av a fun i =>
 T.ae i [.slice 178] fun j k l =>
 T.aJ (((0:Int)≤(0:Int))∧((0:Int)<(k:Int))) <|
 T.av j fun m =>
 T.ae m [.int .i64] fun n =>
 cond (n != (3:Int))
 (T.ret (.bool false))
 (T.av a fun o =>
 T.ae o [.slice 178] fun p q r =>
 T.aJ (((0:Int)≤(0:Int))∧((0:Int)<(q:Int))) <|
 T.av p fun s =>
 T.ae (s.add 1) [.string] fun t =>
 cond (!((ByteArray.toList t)==(ByteArray.toList b)))
 (T.ret (.bool false))
 (T.av a fun u =>
 T.ae u [.slice 178] fun v w x =>
 T.aJ (((0:Int)≤(1:Int))∧(((1:Int)≤(w:Int))∧((w:Int)≤(x:Int)))) <|
 T.av a fun y =>
 T.ap y [.slice (if (x=1) then v else (Option.map (fun z=>Addr.add z 4) v)) ((Int.toNat (w:Int))-1) (x-1)] <|
 T.ret (.bool true)))))
theorem me (a:Option Addr) (b:ByteArray):aV Tryz.prog [] Tryz.f153 [.pointer a,.string b]=iV a b:=by kernel_rfl
def gu (a:Option Addr) (b:Int):T :=
 T.av a fun c =>
 T.ae (c.add 2) [.int .i64] fun d =>
 cond (d==(0:Int))
 (T.av a fun e =>
 T.ap (e.add 2) [vI b] <|
 T.ret (.tuple #[]))
 (T.ret (.tuple #[]))
theorem ki (a:Option Addr) (b:Int):aV Tryz.prog [] Tryz.f154 [.pointer a,vI b]=gu a b:=by kernel_rfl
end Go.Sx
