/- Trees of functions, each checked by the kernel against the code. No condition. -/
import Derived.Test.YtfkjiiapldkoeaaGreatDoorSxF
import Derived.Test.YtfkjiiapldkoeaaGreatDoorProg
import Derived.KernelRfl
set_option linter.unusedVariables false
set_option linter.unusedSimpArgs false
set_option linter.deprecated false
set_option maxRecDepth 100000
namespace Go.Sx
open Go.Proofs
def ix (a:Int):T :=
 T.call Tryz.prog 121 [] false [(false,[.slice 218])] fun b c d =>
 cond (decide (a<(1:Int)))
 (T.ret (vI 0))
 (cond (decide (a>(c:Int)))
 (T.ret (vI 0))
 (T.aJ (((0:Int)≤(IntKind.wrap .i64 (a-(1:Int))))∧((IntKind.wrap .i64 (a-(1:Int)))<(c:Int))) <|
 T.av b fun e =>
 T.ae ((e.add ((Int.toNat (IntKind.wrap .i64 (a-(1:Int))))*3)).add 2) [.int .i64] fun f =>
 T.ret (vI f)))
theorem la (a:Int):aV Tryz.prog [] Tryz.f91 [vI a]=ix a:=by kernel_rfl
def iw (a:Int):T :=
 T.call Tryz.prog 91 [vI a] false [(false,[.int .i64])] fun b =>
 cond (b==(12:Int))
 (T.ret (.bool true))
 (T.call Tryz.prog 91 [vI a] false [(false,[.int .i64])] fun c =>
 T.ret (.bool (c==(13:Int))))
theorem ly (a:Int):aV Tryz.prog [] Tryz.f53 [vI a]=iw a:=by kernel_rfl
def iL (a:Int) (b:Int):T :=
 cond (b==(1:Int))
 (cond (decide (a≥(-128:Int)))
 (T.ret (.bool (decide (a≤(127:Int)))))
 (T.ret (.bool false)))
 (cond (b==(2:Int))
 (cond (decide (a≥(-32768:Int)))
 (T.ret (.bool (decide (a≤(32767:Int)))))
 (T.ret (.bool false)))
 (cond (b==(4:Int))
 (T.ret (.bool true))
 (T.ret (.bool false))))
theorem my (a:Int) (b:Int):aV Tryz.prog [] Tryz.f120 [.int .i32 a,vI b]=iL a b:=by kernel_rfl
def ie (a:Int) (b:Int) (c:Int) (d:Int) (e:Int):T :=
 T.new [vI a,vI b,vI c,.int .i32 d,vI e] 90 fun f =>
 T.ae f [.int .i64] fun g =>
 T.call Tryz.prog 91 [vI g] false [(false,[.int .i64])] fun h =>
 cond (h==(0:Int))
 (T.ret (vI 11))
 (T.ae f [.int .i64,.int .i64,.int .i64,.int .i32,.int .i64] fun i j k l m =>
 T.call Tryz.prog 119 [.agg #[vI i,vI j,vI k,.int .i32 l,vI m]] false [(false,[.bool])] fun n =>
 cond (!n)
 (T.ret (vI 12))
 (cond (h==(12:Int))
 (T.ae (f.add 4) [.int .i64] fun o =>
 cond (o != (1:Int))
 (T.ae (f.add 4) [.int .i64] fun p =>
 cond (p != (2:Int))
 (T.ae (f.add 4) [.int .i64] fun q =>
 cond (q != (4:Int))
 (T.ret (vI 13))
 (T.ae (f.add 3) [.int .i32] fun r =>
 T.ae (f.add 4) [.int .i64] fun s =>
 T.call Tryz.prog 120 [.int .i32 r,vI s] false [(false,[.bool])] fun t =>
 cond (!t)
 (T.ret (vI 13))
 (T.ret (vI 0))))
 (T.ae (f.add 3) [.int .i32] fun q =>
 T.ae (f.add 4) [.int .i64] fun r =>
 T.call Tryz.prog 120 [.int .i32 q,vI r] false [(false,[.bool])] fun s =>
 cond (!s)
 (T.ret (vI 13))
 (T.ret (vI 0))))
 (T.ae (f.add 3) [.int .i32] fun p =>
 T.ae (f.add 4) [.int .i64] fun q =>
 T.call Tryz.prog 120 [.int .i32 p,vI q] false [(false,[.bool])] fun r =>
 cond (!r)
 (T.ret (vI 13))
 (T.ret (vI 0))))
 (cond (h==(13:Int))
 (T.ae (f.add 4) [.int .i64] fun o =>
 cond (o != (1:Int))
 (T.ae (f.add 4) [.int .i64] fun p =>
 cond (p != (2:Int))
 (T.ae (f.add 4) [.int .i64] fun q =>
 cond (q != (4:Int))
 (T.ret (vI 13))
 (T.ae (f.add 3) [.int .i32] fun r =>
 T.ae (f.add 4) [.int .i64] fun s =>
 T.call Tryz.prog 120 [.int .i32 r,vI s] false [(false,[.bool])] fun t =>
 cond (!t)
 (T.ret (vI 13))
 (T.ret (vI 0))))
 (T.ae (f.add 3) [.int .i32] fun q =>
 T.ae (f.add 4) [.int .i64] fun r =>
 T.call Tryz.prog 120 [.int .i32 q,vI r] false [(false,[.bool])] fun s =>
 cond (!s)
 (T.ret (vI 13))
 (T.ret (vI 0))))
 (T.ae (f.add 3) [.int .i32] fun p =>
 T.ae (f.add 4) [.int .i64] fun q =>
 T.call Tryz.prog 120 [.int .i32 p,vI q] false [(false,[.bool])] fun r =>
 cond (!r)
 (T.ret (vI 13))
 (T.ret (vI 0))))
 (T.ae (f.add 4) [.int .i64] fun o =>
 cond (o != (0:Int))
 (T.ret (vI 13))
 (T.ae (f.add 3) [.int .i32] fun p =>
 cond (h==(8:Int))
 (T.ae (f.add 3) [.int .i32] fun q =>
 cond (decide (q≥(-128:Int)))
 (T.ae (f.add 3) [.int .i32] fun r =>
 cond (!(decide (r≤(127:Int))))
 (T.ret (vI 13))
 (T.ret (vI 0)))
 (T.ret (vI 13)))
 (cond (h==(9:Int))
 (T.ae (f.add 3) [.int .i32] fun q =>
 cond (decide (q≥(0:Int)))
 (T.ae (f.add 3) [.int .i32] fun r =>
 cond (!(decide (r≤(255:Int))))
 (T.ret (vI 13))
 (T.ret (vI 0)))
 (T.ret (vI 13)))
 (cond (h==(11:Int))
 (T.ae (f.add 3) [.int .i32] fun q =>
 cond (decide (q≥(0:Int)))
 (T.ae (f.add 3) [.int .i32] fun r =>
 cond (!(decide (r≤(4095:Int))))
 (T.ret (vI 13))
 (T.ret (vI 0)))
 (T.ret (vI 13)))
 (cond (h==(10:Int))
 (cond (h==(10:Int))
 (T.ret (vI 0))
 (cond (!(p==(0:Int)))
 (T.ret (vI 13))
 (T.ret (vI 0))))
 (cond (h==(7:Int))
 (T.ret (vI 0))
 (cond (!(p==(0:Int)))
 (T.ret (vI 13))
 (T.ret (vI 0))))))))))))
theorem lK (a:Int) (b:Int) (c:Int) (d:Int) (e:Int):aV Tryz.prog [] Tryz.f84 [.agg #[vI a,vI b,vI c,.int .i32 d,vI e]]=ie a b c d e:=by kernel_rfl
def iR (a:Int):T :=
 T.call Tryz.prog 91 [vI a] false [(false,[.int .i64])] fun b =>
 cond (b==(10:Int))
 (T.ret (.bool true))
 (cond (b==(11:Int))
 (T.ret (.bool true))
 (cond (b==(12:Int))
 (T.ret (.bool true))
 (T.ret (.bool (b==(13:Int))))))
theorem mz (a:Int):aV Tryz.prog [] Tryz.f85 [vI a]=iR a:=by kernel_rfl
def iK (a:Int) (b:ByteArray) (c:Int) (d:Int) (e:Int) (f:Int) (g:Int) (h:Option Addr) (i j:Nat) (k:Int) (l:Int) (m:Bool) (n:Bool) (o:Bool) (p:Bool):T :=
 T.new [vI a,.string b,vI c,vI d,vI e,.int .i32 f,vI g,.slice h i j,.int .u32 k,vI l] 96 fun q =>
 cond (!m)
 (cond (!n)
 (cond (!o)
 (cond (!p)
 (T.ret (.bool true))
 (T.ae (q.add 9) [.int .i64] fun r =>
 T.ret (.bool (r==(0:Int)))))
 (T.ae (q.add 7) [.slice 109] fun r s t =>
 cond ((s:Int)==(0:Int))
 (T.ae ((q.add 7).add 1) [.int .u32] fun u =>
 cond (u==(0:Int))
 (cond (!p)
 (T.ret (.bool true))
 (T.ae (q.add 9) [.int .i64] fun v =>
 T.ret (.bool (v==(0:Int)))))
 (T.ret (.bool false)))
 (T.ret (.bool false))))
 (T.ae (q.add 2) [.int .i64,.int .i64,.int .i64,.int .i32,.int .i64] fun r s t u v =>
 T.bj Tryz.prog (Sx.bX (BinOp.eql) 90 (Operand.tmp 23) (Operand.tmp 24) (.agg #[vI r,vI s,vI t,.int .i32 u,vI v]) (.agg #[vI 0,vI 0,vI 0,.int .i32 0,vI 0])) false [(false,[.bool])] fun w =>
 cond w
 (cond (!o)
 (cond (!p)
 (T.ret (.bool true))
 (T.ae (q.add 9) [.int .i64] fun x =>
 T.ret (.bool (x==(0:Int)))))
 (T.ae (q.add 7) [.slice 109] fun x y z =>
 cond ((y:Int)==(0:Int))
 (T.ae ((q.add 7).add 1) [.int .u32] fun A =>
 cond (A==(0:Int))
 (cond (!p)
 (T.ret (.bool true))
 (T.ae (q.add 9) [.int .i64] fun B =>
 T.ret (.bool (B==(0:Int)))))
 (T.ret (.bool false)))
 (T.ret (.bool false))))
 (T.ret (.bool false))))
 (T.ae (q.add 1) [.string] fun r =>
 cond ((ByteArray.toList r)==[])
 (cond (!n)
 (cond (!o)
 (cond (!p)
 (T.ret (.bool true))
 (T.ae (q.add 9) [.int .i64] fun s =>
 T.ret (.bool (s==(0:Int)))))
 (T.ae (q.add 7) [.slice 109] fun s t u =>
 cond ((t:Int)==(0:Int))
 (T.ae ((q.add 7).add 1) [.int .u32] fun v =>
 cond (v==(0:Int))
 (cond (!p)
 (T.ret (.bool true))
 (T.ae (q.add 9) [.int .i64] fun w =>
 T.ret (.bool (w==(0:Int)))))
 (T.ret (.bool false)))
 (T.ret (.bool false))))
 (T.ae (q.add 2) [.int .i64,.int .i64,.int .i64,.int .i32,.int .i64] fun s t u v w =>
 T.bj Tryz.prog (Sx.bX (BinOp.eql) 90 (Operand.tmp 23) (Operand.tmp 24) (.agg #[vI s,vI t,vI u,.int .i32 v,vI w]) (.agg #[vI 0,vI 0,vI 0,.int .i32 0,vI 0])) false [(false,[.bool])] fun x =>
 cond x
 (cond (!o)
 (cond (!p)
 (T.ret (.bool true))
 (T.ae (q.add 9) [.int .i64] fun y =>
 T.ret (.bool (y==(0:Int)))))
 (T.ae (q.add 7) [.slice 109] fun y z A =>
 cond ((z:Int)==(0:Int))
 (T.ae ((q.add 7).add 1) [.int .u32] fun B =>
 cond (B==(0:Int))
 (cond (!p)
 (T.ret (.bool true))
 (T.ae (q.add 9) [.int .i64] fun C =>
 T.ret (.bool (C==(0:Int)))))
 (T.ret (.bool false)))
 (T.ret (.bool false))))
 (T.ret (.bool false))))
 (T.ret (.bool false)))
theorem mc (a:Int) (b:ByteArray) (c:Int) (d:Int) (e:Int) (f:Int) (g:Int) (h:Option Addr) (i j:Nat) (k:Int) (l:Int) (m:Bool) (n:Bool) (o:Bool) (p:Bool):aV Tryz.prog [] Tryz.f83 [.agg #[vI a,.string b,vI c,vI d,vI e,.int .i32 f,vI g,.slice h i j,.int .u32 k,vI l],.bool m,.bool n,.bool o,.bool p]=iK a b c d e f g h i j k l m n o p:=by kernel_rfl
def ir (a:Int):T :=
 T.loop [(false,[.bool]),(false,[.int .i64])] [.bool false,vI 1] fun b c =>
 cond (decide (c≤(256:Int)))
 (cond (a==c)
 (T.ret (.bool true))
 (T.again 0 [.bool b,vI (IntKind.wrap .i64 ((2:Int)*c))]))
 (T.ret (.bool false))
theorem lN (a:Int):aV Tryz.prog [] Tryz.f86 [vI a]=ir a:=by kernel_rfl
def jH (a:Option Addr) (b c:Nat) (d:Option Addr) (e f:Nat) (g:Option Addr) (h i:Nat) (j:Option Addr) (k l:Nat):T :=
 T.new [.slice a b c,.slice d e f,.slice g h i,.slice j k l] 27 fun m =>
 T.ae m [.slice 96] fun n o p =>
 T.ae (m.add 1) [.slice 96] fun q r s =>
 T.call Tryz.prog 52 [.slice n o p] false [(false,[.slice 9])] fun t u v =>
 T.aM [((m.add 1),[.slice q r s])] <|
 T.call Tryz.prog 52 [.slice q r s] false [(false,[.slice 9])] fun w x y =>
 T.aM [(m,[.slice n o p])] <|
 T.bj Tryz.prog (Builtin.append_ #[25,25] 25 #[.slice t u v,.slice w x y]) false [(false,[.slice 0])] fun z A B =>
 T.aM [((m.add 1),[.slice q r s]),(m,[.slice n o p])] <|
 T.loop [(false,[.slice 0]),(false,[.int .i64])] [.slice z A B,vI 0] fun C D E F =>
 T.ae (m.add 2) [.slice 99] fun G H I =>
 cond (decide (F<(H:Int)))
 (T.ae (m.add 2) [.slice 99] fun J K L =>
 T.aJ (((0:Int)≤F)∧(F<(K:Int))) <|
 T.av J fun M =>
 T.ae (M.add ((Int.toNat F)*3)) [.string] fun N =>
 T.bj Tryz.prog (Instr.buildSlice 25 1 #[(0,.string N)]) false [(false,[.slice 0])] fun O P Q =>
 T.bj Tryz.prog (Builtin.append_ #[25,25] 25 #[.slice C D E,.slice O P Q]) false [(false,[.slice 0])] fun R S U =>
 T.again 0 [.slice R S U,vI (IntKind.wrap .i64 (F+(1:Int)))])
 (T.ret (.slice C D E))
theorem np (a:Option Addr) (b c:Nat) (d:Option Addr) (e f:Nat) (g:Option Addr) (h i:Nat) (j:Option Addr) (k l:Nat):aV Tryz.prog [] Tryz.f23 [.agg #[.slice a b c,.slice d e f,.slice g h i,.slice j k l]]=jH a b c d e f g h i j k l:=by kernel_rfl
def ef (a:Option Addr) (b c:Nat):T :=
 T.loop [(false,[.slice 0]),(false,[.int .i64])] [.slice none 0 0,vI 0] fun d e f g =>
 cond (decide (g<(b:Int)))
 (T.aJ (((0:Int)≤g)∧(g<(b:Int))) <|
 T.av a fun h =>
 T.ae (h.add ((Int.toNat g)*1)) [.string] fun i =>
 T.call Tryz.prog 50 [.slice d e f,.string i] false [(false,[.bool])] fun j =>
 cond j
 (T.again 0 [.slice d e f,vI (IntKind.wrap .i64 (g+(1:Int)))])
 (T.aJ (((0:Int)≤g)∧(g<(b:Int))) <|
 T.av a fun k =>
 T.ae (k.add ((Int.toNat g)*1)) [.string] fun l =>
 T.bj Tryz.prog (Instr.buildSlice 25 1 #[(0,.string l)]) false [(false,[.slice 0])] fun m n o =>
 T.bj Tryz.prog (Builtin.append_ #[25,25] 25 #[.slice d e f,.slice m n o]) false [(false,[.slice 0])] fun p q r =>
 T.loop [(false,[.int .i64])] [vI (e:Int)] fun s =>
 cond (decide (s>(0:Int)))
 (T.aJ (((0:Int)≤(IntKind.wrap .i64 (s-(1:Int))))∧((IntKind.wrap .i64 (s-(1:Int)))<(q:Int))) <|
 T.av p fun t =>
 T.ae (t.add ((Int.toNat (IntKind.wrap .i64 (s-(1:Int))))*1)) [.string] fun u =>
 T.aJ (((0:Int)≤g)∧(g<(b:Int))) <|
 T.av a fun v =>
 T.ae (v.add ((Int.toNat g)*1)) [.string] fun w =>
 cond (!((Op.bytesLess (ByteArray.toList u) (ByteArray.toList w)) || ((ByteArray.toList u)==(ByteArray.toList w))))
 (T.aJ (((0:Int)≤(IntKind.wrap .i64 (s-(1:Int))))∧((IntKind.wrap .i64 (s-(1:Int)))<(q:Int))) <|
 T.av p fun x =>
 T.ae (x.add ((Int.toNat (IntKind.wrap .i64 (s-(1:Int))))*1)) [.string] fun y =>
 T.aJ (((0:Int)≤s)∧(s<(q:Int))) <|
 T.av p fun z =>
 T.ap (z.add ((Int.toNat s)*1)) [.string y] <|
 T.again 1 [vI (IntKind.wrap .i64 (s-(1:Int)))])
 (T.aJ (((0:Int)≤g)∧(g<(b:Int))) <|
 T.av a fun x =>
 T.ae (x.add ((Int.toNat g)*1)) [.string] fun y =>
 T.aJ (((0:Int)≤s)∧(s<(q:Int))) <|
 T.av p fun z =>
 T.ap (z.add ((Int.toNat s)*1)) [.string y] <|
 T.again 0 [.slice p q r,vI (IntKind.wrap .i64 (g+(1:Int)))]))
 (T.aJ (((0:Int)≤g)∧(g<(b:Int))) <|
 T.av a fun t =>
 T.ae (t.add ((Int.toNat g)*1)) [.string] fun u =>
 T.aJ (((0:Int)≤s)∧(s<(q:Int))) <|
 T.av p fun v =>
 T.ap (v.add ((Int.toNat s)*1)) [.string u] <|
 T.again 0 [.slice p q r,vI (IntKind.wrap .i64 (g+(1:Int)))])))
 (T.ret (.slice d e f))
theorem eW (a:Option Addr) (b c:Nat):aV Tryz.prog [] Tryz.f22 [.slice a b c]=ef a b c:=by kernel_rfl
def jV (a:Option Addr) (b c:Nat) (d:ByteArray):T :=
 T.loop [(false,[.bool]),(false,[.int .i64])] [.bool false,vI 0] fun e f =>
 cond (decide (f<(b:Int)))
 (T.aJ (((0:Int)≤f)∧(f<(b:Int))) <|
 T.av a fun g =>
 T.ae (g.add ((Int.toNat f)*1)) [.string] fun h =>
 cond ((ByteArray.toList h)==(ByteArray.toList d))
 (T.ret (.bool true))
 (T.again 0 [.bool e,vI (IntKind.wrap .i64 (f+(1:Int)))]))
 (T.ret (.bool false))
theorem nj (a:Option Addr) (b c:Nat) (d:ByteArray):aV Tryz.prog [] Tryz.f50 [.slice a b c,.string d]=jV a b c d:=by kernel_rfl
def gF (a:Option Addr) (b c:Nat):T :=
 T.loop [(false,[.slice 0]),(false,[.int .i64])] [.slice none 0 0,vI 0] fun d e f g =>
 cond (decide (g<(b:Int)))
 (T.aJ (((0:Int)≤g)∧(g<(b:Int))) <|
 T.av a fun h =>
 T.ae (h.add ((Int.toNat g)*10)) [.int .i64] fun i =>
 cond (i==(1:Int))
 (T.aJ (((0:Int)≤g)∧(g<(b:Int))) <|
 T.av a fun j =>
 T.ae ((j.add ((Int.toNat g)*10)).add 1) [.string] fun k =>
 T.bj Tryz.prog (Instr.buildSlice 25 1 #[(0,.string k)]) false [(false,[.slice 0])] fun l m n =>
 T.bj Tryz.prog (Builtin.append_ #[25,25] 25 #[.slice d e f,.slice l m n]) false [(false,[.slice 0])] fun o p q =>
 T.again 0 [.slice o p q,vI (IntKind.wrap .i64 (g+(1:Int)))])
 (T.again 0 [.slice d e f,vI (IntKind.wrap .i64 (g+(1:Int)))]))
 (T.ret (.slice d e f))
theorem kv (a:Option Addr) (b c:Nat):aV Tryz.prog [] Tryz.f52 [.slice a b c]=gF a b c:=by kernel_rfl
def iy (a:Option Addr) (b c:Nat) (d:Option Addr) (e f:Nat) (g:Option Addr) (h i:Nat) (j:Option Addr) (k l:Nat):T :=
 T.new [.slice a b c,.slice d e f,.slice g h i,.slice j k l] 27 fun m =>
 T.ae m [.slice 96] fun n o p =>
 T.ae (m.add 1) [.slice 96] fun q r s =>
 cond (decide ((IntKind.wrap .i64 ((o:Int)+(r:Int)))>(8192:Int)))
 (T.ret (vI 4))
 (T.ae (m.add 2) [.slice 99] fun t u v =>
 cond (decide ((u:Int)>(8192:Int)))
 (T.ret (vI 4))
 (T.loop [(false,[.int .i64]),(false,[.int .i64])] [vI 0,vI 0] fun w x =>
 T.ae m [.slice 96] fun y z A =>
 cond (decide (x<(z:Int)))
 (T.ae m [.slice 96] fun B C D =>
 T.aJ (((0:Int)≤x)∧(x<(C:Int))) <|
 T.av B fun E =>
 T.ae (E.add ((Int.toNat x)*10)) yI fun F G H I J K L M N O P Q =>
 T.call Tryz.prog 47 [.agg #[vI F,.string G,vI H,vI I,vI J,.int .i32 K,vI L,.slice M N O,.int .u32 P,vI Q],vI 0] false [(false,[.int .i64])] fun R =>
 cond (R != (0:Int))
 (T.ret (vI 31))
 (T.again 0 [vI w,vI (IntKind.wrap .i64 (x+(1:Int)))]))
 (T.loop [(false,[.int .i64]),(false,[.int .i64])] [vI w,vI 0] fun B C =>
 T.ae (m.add 1) [.slice 96] fun D E F =>
 cond (decide (C<(E:Int)))
 (T.ae (m.add 1) [.slice 96] fun G H I =>
 T.aJ (((0:Int)≤C)∧(C<(H:Int))) <|
 T.av G fun J =>
 T.ae (J.add ((Int.toNat C)*10)) yI fun K L M N O P Q R S U V W =>
 T.call Tryz.prog 47 [.agg #[vI K,.string L,vI M,vI N,vI O,.int .i32 P,vI Q,.slice R S U,.int .u32 V,vI W],vI 1] false [(false,[.int .i64])] fun X =>
 cond (X != (0:Int))
 (T.ret (vI 31))
 (T.again 1 [vI B,vI (IntKind.wrap .i64 (C+(1:Int)))]))
 (T.loop [(false,[.int .i64]),(false,[.int .i64])] [vI B,vI 0] fun G H =>
 T.ae (m.add 2) [.slice 99] fun I J K =>
 cond (decide (H<(J:Int)))
 (T.ae (m.add 2) [.slice 99] fun L M N =>
 T.aJ (((0:Int)≤H)∧(H<(M:Int))) <|
 T.av L fun O =>
 T.ae (O.add ((Int.toNat H)*3)) [.string] fun P =>
 T.call Tryz.prog 48 [.string P] false [(false,[.bool])] fun Q =>
 cond (!Q)
 (T.ret (vI 31))
 (T.ae (m.add 2) [.slice 99] fun R S U =>
 T.aJ (((0:Int)≤H)∧(H<(S:Int))) <|
 T.av R fun V =>
 T.ae ((V.add ((Int.toNat H)*3)).add 1) [.slice 109,.int .u32] fun W X Y Z =>
 T.call Tryz.prog 49 [.agg #[.slice W X Y,.int .u32 Z]] false [(false,[.bool])] fun a0 =>
 cond (!a0)
 (T.ret (vI 31))
 (T.again 2 [vI G,vI (IntKind.wrap .i64 (H+(1:Int)))])))
 (T.ae m [.slice 96,.slice 96,.slice 99,.slice 9] fun L M N O P Q R S U V W X =>
 T.call Tryz.prog 23 [.agg #[.slice L M N,.slice O P Q,.slice R S U,.slice V W X]] false [(false,[.slice 9])] fun Y Z a0 =>
 T.call Tryz.prog 22 [.slice Y Z a0] false [(false,[.slice 9])] fun a1 a2 a3 =>
 cond ((a2:Int) != (Z:Int))
 (T.ret (vI 31))
 (T.loop [(false,[.int .i64]),(false,[.int .i64])] [vI G,vI 0] fun a4 a5 =>
 T.ae (m.add 3) [.slice 9] fun a6 a7 a8 =>
 cond (decide (a5<(a7:Int)))
 (cond (decide (a5>(0:Int)))
 (T.ae (m.add 3) [.slice 9] fun a9 b0 b1 =>
 T.aJ (((0:Int)≤a5)∧(a5<(b0:Int))) <|
 T.av a9 fun b2 =>
 T.ae (b2.add ((Int.toNat a5)*1)) [.string] fun b3 =>
 T.ae (m.add 3) [.slice 9] fun b4 b5 b6 =>
 T.aJ (((0:Int)≤(IntKind.wrap .i64 (a5-(1:Int))))∧((IntKind.wrap .i64 (a5-(1:Int)))<(b5:Int))) <|
 T.av b4 fun b7 =>
 T.ae (b7.add ((Int.toNat (IntKind.wrap .i64 (a5-(1:Int))))*1)) [.string] fun b8 =>
 cond ((Op.bytesLess (ByteArray.toList b3) (ByteArray.toList b8)) || ((ByteArray.toList b3)==(ByteArray.toList b8)))
 (T.ret (vI 31))
 (T.ae (m.add 3) [.slice 9] fun b9 c0 c1 =>
 T.aJ (((0:Int)≤a5)∧(a5<(c0:Int))) <|
 T.av b9 fun c2 =>
 T.ae (c2.add ((Int.toNat a5)*1)) [.string] fun c3 =>
 T.call Tryz.prog 50 [.slice Y Z a0,.string c3] false [(false,[.bool])] fun c4 =>
 T.aM [((m.add 3),[.slice b9 c0 c1]),((b7.add ((Int.toNat (IntKind.wrap .i64 (a5-(1:Int))))*1)),[.string b8]),((m.add 3),[.slice b4 b5 b6]),((b2.add ((Int.toNat a5)*1)),[.string b3]),((m.add 3),[.slice a9 b0 b1])] <|
 cond (!c4)
 (T.ret (vI 31))
 (T.again 3 [vI a4,vI (IntKind.wrap .i64 (a5+(1:Int)))])))
 (T.ae (m.add 3) [.slice 9] fun a9 b0 b1 =>
 T.aJ (((0:Int)≤a5)∧(a5<(b0:Int))) <|
 T.av a9 fun b2 =>
 T.ae (b2.add ((Int.toNat a5)*1)) [.string] fun b3 =>
 T.call Tryz.prog 50 [.slice Y Z a0,.string b3] false [(false,[.bool])] fun b4 =>
 T.aM [((m.add 3),[.slice a9 b0 b1])] <|
 cond (!b4)
 (T.ret (vI 31))
 (T.again 3 [vI a4,vI (IntKind.wrap .i64 (a5+(1:Int)))])))
 (T.ret (vI 0))))))))
theorem kG (a:Option Addr) (b c:Nat) (d:Option Addr) (e f:Nat) (g:Option Addr) (h i:Nat) (j:Option Addr) (k l:Nat):aV Tryz.prog [] Tryz.f20 [.agg #[.slice a b c,.slice d e f,.slice g h i,.slice j k l]]=iy a b c d e f g h i j k l:=by kernel_rfl
end Go.Sx
