/- Trees of functions, each checked by the kernel against the code. No condition. -/
import Derived.Test.YtfkjiiapldkoeaaGreatDoorSxF
import Derived.Test.YtfkjiiapldkoeaaGreatDoorProg
import Derived.KernelRfl
set_option linter.unusedVariables false
set_option linter.unusedSimpArgs false
set_option linter.deprecated false
set_option maxRecDepth 100000
namespace Go.Sx
open Go.Proofs
def jj (a:Option Addr) (b c:Nat) (d:Option Addr) (e f:Nat) (g:Option Addr) (h i:Nat) (j:Option Addr) (k l:Nat):T :=
 T.new [.slice a b c,.slice d e f,.slice g h i,.slice j k l] 27 fun m =>
 T.ae m [.slice 96] fun n o p =>
 T.ae (m.add 1) [.slice 96] fun q r s =>
 T.call Tryz.prog 52 [.slice n o p] false [(false,[.slice 9])] fun t u v =>
 T.aR [((m.add 1),[.slice q r s])] <|
 T.call Tryz.prog 52 [.slice q r s] false [(false,[.slice 9])] fun w x y =>
 T.aR [(m,[.slice n o p])] <|
 T.aY Tryz.prog (Builtin.append_ #[25,25] 25 #[.slice t u v,.slice w x y]) false [(false,[.slice 0])] fun z A B =>
 T.aR [((m.add 1),[.slice q r s]),(m,[.slice n o p])] <|
 T.loop [(false,[.slice 0]),(false,[.int .i64])] [.slice z A B,vI 0] fun C D E F =>
 T.ae (m.add 2) [.slice 99] fun G H I =>
 cond (decide (F<(H:Int)))
 (T.ae (m.add 2) [.slice 99] fun J K L =>
 T.need (((0:Int)≤F)∧(F<(K:Int))) <|
 T.au J fun M =>
 T.ae (M.add ((Int.toNat F)*3)) [.string] fun N =>
 T.aY Tryz.prog (Instr.buildSlice 25 1 #[(0,.string N)]) false [(false,[.slice 0])] fun O P Q =>
 T.aY Tryz.prog (Builtin.append_ #[25,25] 25 #[.slice C D E,.slice O P Q]) false [(false,[.slice 0])] fun R S U =>
 T.again 0 [.slice R S U,vI (IntKind.wrap .i64 (F+(1:Int)))])
 (T.ret (.slice C D E))
theorem mi (a:Option Addr) (b c:Nat) (d:Option Addr) (e f:Nat) (g:Option Addr) (h i:Nat) (j:Option Addr) (k l:Nat):aX Tryz.prog [] Tryz.f23 [.agg #[.slice a b c,.slice d e f,.slice g h i,.slice j k l]]=jj a b c d e f g h i j k l:=by kernel_rfl
def gn (a:Option Addr) (b c:Nat):T :=
 T.loop [(false,[.slice 0]),(false,[.int .i64])] [.slice none 0 0,vI 0] fun d e f g =>
 cond (decide (g<(b:Int)))
 (T.need (((0:Int)≤g)∧(g<(b:Int))) <|
 T.au a fun h =>
 T.ae (h.add ((Int.toNat g)*1)) [.string] fun i =>
 T.call Tryz.prog 50 [.slice d e f,.string i] false [(false,[.bool])] fun j =>
 cond j
 (T.again 0 [.slice d e f,vI (IntKind.wrap .i64 (g+(1:Int)))])
 (T.need (((0:Int)≤g)∧(g<(b:Int))) <|
 T.au a fun k =>
 T.ae (k.add ((Int.toNat g)*1)) [.string] fun l =>
 T.aY Tryz.prog (Instr.buildSlice 25 1 #[(0,.string l)]) false [(false,[.slice 0])] fun m n o =>
 T.aY Tryz.prog (Builtin.append_ #[25,25] 25 #[.slice d e f,.slice m n o]) false [(false,[.slice 0])] fun p q r =>
 T.loop [(false,[.int .i64])] [vI (e:Int)] fun s =>
 cond (decide (s>(0:Int)))
 (T.need (((0:Int)≤(IntKind.wrap .i64 (s-(1:Int))))∧((IntKind.wrap .i64 (s-(1:Int)))<(q:Int))) <|
 T.au p fun t =>
 T.ae (t.add ((Int.toNat (IntKind.wrap .i64 (s-(1:Int))))*1)) [.string] fun u =>
 T.need (((0:Int)≤g)∧(g<(b:Int))) <|
 T.au a fun v =>
 T.ae (v.add ((Int.toNat g)*1)) [.string] fun w =>
 cond (!((Op.bytesLess (ByteArray.toList u) (ByteArray.toList w)) || ((ByteArray.toList u)==(ByteArray.toList w))))
 (T.need (((0:Int)≤(IntKind.wrap .i64 (s-(1:Int))))∧((IntKind.wrap .i64 (s-(1:Int)))<(q:Int))) <|
 T.au p fun x =>
 T.ae (x.add ((Int.toNat (IntKind.wrap .i64 (s-(1:Int))))*1)) [.string] fun y =>
 T.need (((0:Int)≤s)∧(s<(q:Int))) <|
 T.au p fun z =>
 T.ap (z.add ((Int.toNat s)*1)) [.string y] <|
 T.again 1 [vI (IntKind.wrap .i64 (s-(1:Int)))])
 (T.need (((0:Int)≤g)∧(g<(b:Int))) <|
 T.au a fun x =>
 T.ae (x.add ((Int.toNat g)*1)) [.string] fun y =>
 T.need (((0:Int)≤s)∧(s<(q:Int))) <|
 T.au p fun z =>
 T.ap (z.add ((Int.toNat s)*1)) [.string y] <|
 T.again 0 [.slice p q r,vI (IntKind.wrap .i64 (g+(1:Int)))]))
 (T.need (((0:Int)≤g)∧(g<(b:Int))) <|
 T.au a fun t =>
 T.ae (t.add ((Int.toNat g)*1)) [.string] fun u =>
 T.need (((0:Int)≤s)∧(s<(q:Int))) <|
 T.au p fun v =>
 T.ap (v.add ((Int.toNat s)*1)) [.string u] <|
 T.again 0 [.slice p q r,vI (IntKind.wrap .i64 (g+(1:Int)))])))
 (T.ret (.slice d e f))
theorem kf (a:Option Addr) (b c:Nat):aX Tryz.prog [] Tryz.f22 [.slice a b c]=gn a b c:=by kernel_rfl
def iW (a:Option Addr) (b c:Nat) (d:ByteArray):T :=
 T.loop [(false,[.bool]),(false,[.int .i64])] [.bool false,vI 0] fun e f =>
 cond (decide (f<(b:Int)))
 (T.need (((0:Int)≤f)∧(f<(b:Int))) <|
 T.au a fun g =>
 T.ae (g.add ((Int.toNat f)*1)) [.string] fun h =>
 cond ((ByteArray.toList h)==(ByteArray.toList d))
 (T.ret (.bool true))
 (T.again 0 [.bool e,vI (IntKind.wrap .i64 (f+(1:Int)))]))
 (T.ret (.bool false))
theorem mn (a:Option Addr) (b c:Nat) (d:ByteArray):aX Tryz.prog [] Tryz.f50 [.slice a b c,.string d]=iW a b c d:=by kernel_rfl
def gB (a:Option Addr) (b c:Nat):T :=
 T.loop [(false,[.slice 0]),(false,[.int .i64])] [.slice none 0 0,vI 0] fun d e f g =>
 cond (decide (g<(b:Int)))
 (T.need (((0:Int)≤g)∧(g<(b:Int))) <|
 T.au a fun h =>
 T.ae (h.add ((Int.toNat g)*10)) [.int .i64] fun i =>
 cond (i==(1:Int))
 (T.need (((0:Int)≤g)∧(g<(b:Int))) <|
 T.au a fun j =>
 T.ae ((j.add ((Int.toNat g)*10)).add 1) [.string] fun k =>
 T.aY Tryz.prog (Instr.buildSlice 25 1 #[(0,.string k)]) false [(false,[.slice 0])] fun l m n =>
 T.aY Tryz.prog (Builtin.append_ #[25,25] 25 #[.slice d e f,.slice l m n]) false [(false,[.slice 0])] fun o p q =>
 T.again 0 [.slice o p q,vI (IntKind.wrap .i64 (g+(1:Int)))])
 (T.again 0 [.slice d e f,vI (IntKind.wrap .i64 (g+(1:Int)))]))
 (T.ret (.slice d e f))
theorem j0 (a:Option Addr) (b c:Nat):aX Tryz.prog [] Tryz.f52 [.slice a b c]=gB a b c:=by kernel_rfl
end Go.Sx
