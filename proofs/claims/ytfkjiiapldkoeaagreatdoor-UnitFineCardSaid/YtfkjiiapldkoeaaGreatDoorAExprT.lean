/- Trees of functions, each checked by the kernel against the code. No condition. -/
import Derived.Test.YtfkjiiapldkoeaaGreatDoorSxF
import Derived.Test.YtfkjiiapldkoeaaGreatDoorProg
import Derived.KernelRfl
set_option linter.unusedVariables false
set_option linter.unusedSimpArgs false
set_option linter.deprecated false
set_option maxRecDepth 100000
namespace Go.Sx
open Go.Proofs
def sQ (a:Option Nat) (b:Int):T :=
 T.new [.slice none 0 0,.int .u32 0] 94 fun c =>
 T.new [.slice none 0 0,.int .u32 0] 94 fun d =>
 T.ap d [.slice none 0 0,.int .u32 b] <|
 T.call Tryz.prog 193 [.map a] false [(false,[.func #[39] #[] false])] fun (e:Value) =>
 T.call Tryz.prog 34 [e] false [(false,[.slice 9])] fun f g h =>
 T.loop [(false,[.int .i64])] [vI 0] fun i =>
 cond (decide (i<(g:Int)))
 (T.need (((0:Int)≤i)∧(i<(g:Int))) <|
 T.au f fun j =>
 T.ae (j.add ((Int.toNat i)*1)) [.string] fun k =>
 T.aY Tryz.prog (Instr.lookup 286 (.map a) (.string k) false) false [(false,[.int .u32])] fun l =>
 cond (l != (0:Int))
 (T.ae d [.slice 109] fun m n o =>
 T.aY Tryz.prog (Instr.lookup 286 (.map a) (.string k) false) false [(false,[.int .u32])] fun p =>
 T.aY Tryz.prog (Instr.buildSlice 91 1 #[(0,.agg #[.string k,.int .u32 p])]) false [(false,[.slice 0])] fun q r s =>
 T.aY Tryz.prog (Builtin.append_ #[91,91] 91 #[.slice m n o,.slice q r s]) false [(false,[.slice 0])] fun t u v =>
 T.ap d [.slice t u v] <|
 T.again 0 [vI (IntKind.wrap .i64 (i+(1:Int)))])
 (T.again 0 [vI (IntKind.wrap .i64 (i+(1:Int)))]))
 (T.ae d [.slice 109,.int .u32] fun j k l m =>
 T.ap c [.slice j k l,.int .u32 m] <|
 T.ae c [.slice 109,.int .u32] fun n o p q =>
 T.ret (.agg #[.slice n o p,.int .u32 q]))
theorem uy (a:Option Nat) (b:Int):aX Tryz.prog [] Tryz.f179 [.map a,.int .u32 b]=sQ a b:=by kernel_rfl
def vW (a:Option Addr) (b c:Nat) (d:Int) (e:Option Addr) (f g:Nat) (h:Int):T :=
 T.new [.slice a b c,.int .u32 d] 94 fun i =>
 T.new [.slice e f g,.int .u32 h] 94 fun j =>
 T.new [.slice none 0 0,.int .u32 0] 94 fun k =>
 T.aY Tryz.prog (Instr.makeMap 286 none) false [(false,[.map 0 0])] fun l =>
 T.ae i [.slice 109] fun m n o =>
 T.ae j [.slice 109] fun p q r =>
 T.aY Tryz.prog (Instr.buildSlice 288 2 #[(0,.slice m n o),(1,.slice p q r)]) false [(false,[.slice 0])] fun s t u =>
 T.loop [(false,[.int .i64])] [vI 0] fun v =>
 cond (decide (v<(t:Int)))
 (T.need (((0:Int)≤v)∧(v<(t:Int))) <|
 T.au s fun w =>
 T.ae (w.add ((Int.toNat v)*1)) [.slice 109] fun x y z =>
 T.loop [(false,[.int .i64])] [vI 0] fun A =>
 cond (decide (A<(y:Int)))
 (T.need (((0:Int)≤A)∧(A<(y:Int))) <|
 T.au x fun B =>
 T.ae (B.add ((Int.toNat A)*2)) [.string,.int .u32] fun C D =>
 T.new [.string ⟨#[]⟩,.int .u32 0] 109 fun E =>
 T.ap E [.string C,.int .u32 D] <|
 T.ae E [.string] fun F =>
 T.aY Tryz.prog (Instr.lookup 286 (.map l) (.string F) false) false [(false,[.int .u32])] fun G =>
 T.ae (E.add 1) [.int .u32] fun H =>
 T.mC Tryz.prog (Instr.mapUpdate 286 (.map l) (.string F) (.int .u32 (IntKind.wrap .u32 (G+H)))) <|
 T.again 1 [vI (IntKind.wrap .i64 (A+(1:Int)))])
 (T.again 0 [vI (IntKind.wrap .i64 (v+(1:Int)))]))
 (T.ae (i.add 1) [.int .u32] fun w =>
 T.ae (j.add 1) [.int .u32] fun x =>
 T.call Tryz.prog 179 [.map l,.int .u32 (IntKind.wrap .u32 (w+x))] false [(true,[.slice 109,.int .u32])] fun y z A B =>
 T.ap k [.slice y z A,.int .u32 B] <|
 T.ae k [.slice 109,.int .u32] fun C D E F =>
 T.ret (.agg #[.slice C D E,.int .u32 F]))
theorem xc (a:Option Addr) (b c:Nat) (d:Int) (e:Option Addr) (f g:Nat) (h:Int):aX Tryz.prog [] Tryz.f159 [.agg #[.slice a b c,.int .u32 d],.agg #[.slice e f g,.int .u32 h]]=vW a b c d e f g h:=by kernel_rfl
def qS (a:Option Addr) (b c:Nat) (d:Int) (e:Int):T :=
 T.new [.slice a b c,.int .u32 d] 94 fun f =>
 T.new [.slice none 0 0,.int .u32 0] 94 fun g =>
 T.aY Tryz.prog (Instr.makeMap 286 none) false [(false,[.map 0 0])] fun h =>
 T.ae f [.slice 109] fun i j k =>
 T.loop [(false,[.int .i64])] [vI 0] fun l =>
 cond (decide (l<(j:Int)))
 (T.need (((0:Int)≤l)∧(l<(j:Int))) <|
 T.au i fun m =>
 T.ae (m.add ((Int.toNat l)*2)) [.string,.int .u32] fun n o =>
 T.new [.string ⟨#[]⟩,.int .u32 0] 109 fun p =>
 T.ap p [.string n,.int .u32 o] <|
 T.ae p [.string] fun q =>
 T.aY Tryz.prog (Instr.lookup 286 (.map h) (.string q) false) false [(false,[.int .u32])] fun r =>
 T.ae (p.add 1) [.int .u32] fun s =>
 T.mC Tryz.prog (Instr.mapUpdate 286 (.map h) (.string q) (.int .u32 (IntKind.wrap .u32 (r+(IntKind.wrap .u32 (s*e)))))) <|
 T.again 0 [vI (IntKind.wrap .i64 (l+(1:Int)))])
 (T.ae (f.add 1) [.int .u32] fun m =>
 T.call Tryz.prog 179 [.map h,.int .u32 (IntKind.wrap .u32 (m*e))] false [(true,[.slice 109,.int .u32])] fun n o p q =>
 T.ap g [.slice n o p,.int .u32 q] <|
 T.ae g [.slice 109,.int .u32] fun r s t u =>
 T.ret (.agg #[.slice r s t,.int .u32 u]))
theorem tV (a:Option Addr) (b c:Nat) (d:Int) (e:Int):aX Tryz.prog [] Tryz.f156 [.agg #[.slice a b c,.int .u32 d],.int .u32 e]=qS a b c d e:=by kernel_rfl
def rH (a:Option Addr) (b c:Nat) (d:Int):T :=
 T.new [.slice a b c,.int .u32 d] 94 fun e =>
 T.ae e [.slice 109] fun f g h =>
 T.loop [(false,[.bool]),(false,[.int .i64])] [.bool false,vI 0] fun i j =>
 cond (decide (j<(g:Int)))
 (T.need (((0:Int)≤j)∧(j<(g:Int))) <|
 T.au f fun k =>
 T.ae (k.add ((Int.toNat j)*2)) [.string,.int .u32] fun l m =>
 T.new [.string ⟨#[]⟩,.int .u32 0] 109 fun n =>
 T.ap n [.string l,.int .u32 m] <|
 T.ae (n.add 1) [.int .u32] fun o =>
 cond (o==(0:Int))
 (T.ret (.bool false))
 (T.ae n [.string] fun p =>
 T.call Tryz.prog 45 [.string p] false [(false,[.bool])] fun q =>
 T.aR [((n.add 1),[.int .u32 o])] <|
 cond (!q)
 (T.ret (.bool false))
 (cond (decide (j>(0:Int)))
 (T.ae n [.string] fun r =>
 T.ae e [.slice 109] fun s t u =>
 T.need (((0:Int)≤(IntKind.wrap .i64 (j-(1:Int))))∧((IntKind.wrap .i64 (j-(1:Int)))<(t:Int))) <|
 T.au s fun v =>
 T.ae (v.add ((Int.toNat (IntKind.wrap .i64 (j-(1:Int))))*2)) [.string] fun w =>
 cond ((Op.bytesLess (ByteArray.toList r) (ByteArray.toList w)) || ((ByteArray.toList r)==(ByteArray.toList w)))
 (T.ret (.bool false))
 (T.again 0 [.bool i,vI (IntKind.wrap .i64 (j+(1:Int)))]))
 (T.again 0 [.bool i,vI (IntKind.wrap .i64 (j+(1:Int)))]))))
 (T.ret (.bool true))
theorem tP (a:Option Addr) (b c:Nat) (d:Int):aX Tryz.prog [] Tryz.f46 [.agg #[.slice a b c,.int .u32 d]]=rH a b c d:=by kernel_rfl
def ti (a:Option Addr) (b c:Nat) (d:Int) (e:Option Addr) (f g:Nat) (h:Int):T :=
 T.new [.slice a b c,.int .u32 d] 94 fun i =>
 T.new [.slice e f g,.int .u32 h] 94 fun j =>
 T.ae (i.add 1) [.int .u32] fun k =>
 T.ae (j.add 1) [.int .u32] fun l =>
 cond (k==l)
 (T.ae i [.slice 109] fun m n o =>
 T.ae j [.slice 109] fun p q r =>
 T.call Tryz.prog 117 [.slice m n o,.slice p q r] false [(false,[.bool])] fun s =>
 T.ret (.bool s))
 (T.ret (.bool false))
theorem wY (a:Option Addr) (b c:Nat) (d:Int) (e:Option Addr) (f g:Nat) (h:Int):aX Tryz.prog [] Tryz.f80 [.agg #[.slice a b c,.int .u32 d],.agg #[.slice e f g,.int .u32 h]]=ti a b c d e f g h:=by kernel_rfl
def iq (a:Option Addr) (b c:Nat) (d:Int) (e:Option Addr) (f g:Nat) (h:Int):T :=
 T.new [.slice a b c,.int .u32 d] 94 fun i =>
 T.new [.slice e f g,.int .u32 h] 94 fun j =>
 T.ae (i.add 1) [.int .u32] fun k =>
 T.ae (j.add 1) [.int .u32] fun l =>
 cond (k != l)
 (T.ret (.bool false))
 (T.ae i [.slice 109] fun m n o =>
 T.ae j [.slice 109] fun p q r =>
 cond ((n:Int) != (q:Int))
 (T.ret (.bool false))
 (T.loop [(false,[.bool]),(false,[.int .i64])] [.bool false,vI 0] fun s t =>
 T.ae i [.slice 109] fun u v w =>
 cond (decide (t<(v:Int)))
 (T.ae i [.slice 109] fun x y z =>
 T.need (((0:Int)≤t)∧(t<(y:Int))) <|
 T.au x fun A =>
 T.ae (A.add ((Int.toNat t)*2)) [.string,.int .u32] fun B C =>
 T.ae j [.slice 109] fun D E F =>
 T.need (((0:Int)≤t)∧(t<(E:Int))) <|
 T.au D fun G =>
 T.ae (G.add ((Int.toNat t)*2)) [.string,.int .u32] fun H I =>
 T.aY Tryz.prog (Sx.bM (BinOp.neq) 109 (Operand.tmp 31) (Operand.tmp 36) (.agg #[.string B,.int .u32 C]) (.agg #[.string H,.int .u32 I])) false [(false,[.bool])] fun J =>
 T.aR [(j,[.slice D E F]),(i,[.slice x y z])] <|
 cond J
 (T.ret (.bool false))
 (T.again 0 [.bool s,vI (IntKind.wrap .i64 (t+(1:Int)))]))
 (T.ret (.bool true))))
theorem kZ (a:Option Addr) (b c:Nat) (d:Int) (e:Option Addr) (f g:Nat) (h:Int):aX Tryz.prog [] Tryz.f75 [.agg #[.slice a b c,.int .u32 d],.agg #[.slice e f g,.int .u32 h]]=iq a b c d e f g h:=by kernel_rfl
def qK (a:ByteArray):T :=
 T.new [.slice none 0 0,.int .u32 0] 94 fun b =>
 T.aY Tryz.prog (Instr.buildSlice 91 1 #[(0,.agg #[.string a,.int .u32 1])]) false [(false,[.slice 0])] fun c d e =>
 T.ap b [.slice c d e,.int .u32 0] <|
 T.ae b [.slice 109,.int .u32] fun f g h i =>
 T.ret (.agg #[.slice f g h,.int .u32 i])
theorem tX (a:ByteArray):aX Tryz.prog [] Tryz.f155 [.string a]=qK a:=by kernel_rfl
def cS (a:Option Addr) (b c:Nat) (d:Option Addr) (e f:Nat):T :=
 cond ((b:Int) != (e:Int))
 (T.ret (.bool false))
 (T.loop [(false,[.bool]),(false,[.int .i64])] [.bool false,vI 0] fun g h =>
 cond (decide (h<(b:Int)))
 (T.need (((0:Int)≤h)∧(h<(b:Int))) <|
 T.au a fun i =>
 T.ae (i.add ((Int.toNat h)*2)) [.string,.int .u32] fun j k =>
 T.need (((0:Int)≤h)∧(h<(e:Int))) <|
 T.au d fun l =>
 T.ae (l.add ((Int.toNat h)*2)) [.string,.int .u32] fun m n =>
 T.aY Tryz.prog (Sx.bM (BinOp.neq) 109 (Operand.tmp 19) (Operand.tmp 23) (.agg #[.string j,.int .u32 k]) (.agg #[.string m,.int .u32 n])) false [(false,[.bool])] fun o =>
 cond o
 (T.ret (.bool false))
 (T.again 0 [.bool g,vI (IntKind.wrap .i64 (h+(1:Int)))]))
 (T.ret (.bool true)))
theorem ez (a:Option Addr) (b c:Nat) (d:Option Addr) (e f:Nat):aX Tryz.prog [] Tryz.f117 [.slice a b c,.slice d e f]=cS a b c d e f:=by kernel_rfl
def iz (a:Option Addr) (b:ByteArray):T :=
 T.au a fun c =>
 T.ae (c.add 2) [.int .i64] fun d =>
 cond (d != (0:Int))
 (T.ret (.bool false))
 (T.au a fun e =>
 T.ae e [.slice 178] fun f g h =>
 cond ((g:Int)==(0:Int))
 (T.ret (.bool false))
 (T.au a fun i =>
 T.ae i [.slice 178] fun j k l =>
 T.need (((0:Int)≤(0:Int))∧((0:Int)<(k:Int))) <|
 T.au j fun m =>
 T.ae m [.int .i64] fun n =>
 cond (n != (3:Int))
 (T.ret (.bool false))
 (T.au a fun o =>
 T.ae o [.slice 178] fun p q r =>
 T.need (((0:Int)≤(0:Int))∧((0:Int)<(q:Int))) <|
 T.au p fun s =>
 T.ae (s.add 1) [.string] fun t =>
 cond (!((ByteArray.toList t)==(ByteArray.toList b)))
 (T.ret (.bool false))
 (T.au a fun u =>
 T.ae u [.slice 178] fun v w x =>
 T.need (((0:Int)≤(1:Int))∧(((1:Int)≤(w:Int))∧((w:Int)≤(x:Int)))) <|
 T.au a fun y =>
 T.ap y [.slice (if (x=1) then v else (Option.map (fun z=>Addr.add z 4) v)) ((Int.toNat (w:Int))-1) (x-1)] <|
 T.ret (.bool true)))))
theorem lj (a:Option Addr) (b:ByteArray):aX Tryz.prog [] Tryz.f153 [.pointer a,.string b]=iz a b:=by kernel_rfl
def gC (a:Option Addr) (b:Int):T :=
 T.au a fun c =>
 T.ae (c.add 2) [.int .i64] fun d =>
 cond (d==(0:Int))
 (T.au a fun e =>
 T.ap (e.add 2) [vI b] <|
 T.ret (.tuple #[]))
 (T.ret (.tuple #[]))
theorem j6 (a:Option Addr) (b:Int):aX Tryz.prog [] Tryz.f154 [.pointer a,vI b]=gC a b:=by kernel_rfl
end Go.Sx
