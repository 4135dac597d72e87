/- Trees of functions. No condition. -/
import Derived.Test.YthbffkdafjboiaaGreatDoorSxF
import Derived.Test.YthbffkdafjboiaaGreatDoorProg
import Derived.KernelRfl
set_option linter.all false
set_option maxRecDepth 100000
set_option maxHeartbeats 4000000
namespace Go.Sx
open Go.Proofs
def fL (a:ZC) (b c:Nat) (d:ZC) (e f:Nat) (g:ZC) (h i:Nat):T :=
 bK 12 [.slice a b c] true [(false,[.pointer 92]),(false,[.pointer 81]),cg,cg] fun j k l m =>
 cond (!l)
 (cond m
 (aT 11 [] fun n =>
 T.ret (.bool n))
 bC)
 (bK 10 [.pointer j,.slice d e f] true [(true,[.int .i64,.int .i64,.int .i64,.int .i64]),cg] fun n o p q r =>
 T.new [vI 0,vI 0,vI 0,vI 0] 25 fun s =>
 T.aE s [vI n,vI o,vI p,vI q] <|
 bK 10 [.pointer j,.slice g h i] true [(true,[.int .i64,.int .i64,.int .i64,.int .i64]),cg] fun t u v w x =>
 T.new [vI 0,vI 0,vI 0,vI 0] 25 fun y =>
 T.aE y [vI t,vI u,vI v,vI w] <|
 bm (Instr.buildSlice 31 0 #[]) fun z A B =>
 bm (Builtin.append_ #[31,31] 31 #[.slice z A B,.slice d e f]) fun C D E =>
 bm (Builtin.append_ #[31,31] 31 #[.slice C D E,.slice g h i]) fun F G H =>
 bK 10 [.pointer j,.slice F G H] true [(true,[.int .i64,.int .i64,.int .i64,.int .i64]),cg] fun I J K L M =>
 T.new [vI 0,vI 0,vI 0,vI 0] 25 fun N =>
 T.aE N [vI I,vI J,vI K,vI L] <|
 cond r
 (cond (M==true)
 (cond (!M)
 (aT 11 [] fun O =>
 T.ret (.bool O))
 (T.ah N [.int .i64,.int .i64,.int .i64,.int .i64] fun O P Q R =>
 T.ah s [.int .i64,.int .i64,.int .i64,.int .i64] fun S U V W =>
 dr (Sx.ir (BinOp.eql) 25 (Operand.tmp 62) (Operand.tmp 63) (.agg #[vI O,vI P,vI Q,vI R]) (.agg #[vI S,vI U,vI V,vI W])) fun X =>
 cond X
 (cond r
 (aT 11 [] fun Y =>
 T.ret (.bool Y))
 (T.ah N [.int .i64,.int .i64,.int .i64,.int .i64] fun Y Z a0 a1 =>
 T.ah y [.int .i64,.int .i64,.int .i64,.int .i64] fun a2 a3 a4 a5 =>
 dr (Sx.ir (BinOp.eql) 25 (Operand.tmp 70) (Operand.tmp 71) (.agg #[vI Y,vI Z,vI a0,vI a1]) (.agg #[vI a2,vI a3,vI a4,vI a5])) fun a6 =>
 cond a6
 (cond x
 (aT 11 [] fun a7 =>
 T.ret (.bool a7))
 bC)
 bC))
 (T.ah N [.int .i64,.int .i64,.int .i64,.int .i64] fun Y Z a0 a1 =>
 T.ah y [.int .i64,.int .i64,.int .i64,.int .i64] fun a2 a3 a4 a5 =>
 dr (Sx.ir (BinOp.eql) 25 (Operand.tmp 70) (Operand.tmp 71) (.agg #[vI Y,vI Z,vI a0,vI a1]) (.agg #[vI a2,vI a3,vI a4,vI a5])) fun a6 =>
 cond a6
 (cond x
 (aT 11 [] fun a7 =>
 T.ret (.bool a7))
 bC)
 bC)))
 bC)
 (cond (M==x)
 (cond (!M)
 (aT 11 [] fun O =>
 T.ret (.bool O))
 (T.ah N [.int .i64,.int .i64,.int .i64,.int .i64] fun O P Q R =>
 T.ah s [.int .i64,.int .i64,.int .i64,.int .i64] fun S U V W =>
 dr (Sx.ir (BinOp.eql) 25 (Operand.tmp 62) (Operand.tmp 63) (.agg #[vI O,vI P,vI Q,vI R]) (.agg #[vI S,vI U,vI V,vI W])) fun X =>
 cond X
 (cond r
 (aT 11 [] fun Y =>
 T.ret (.bool Y))
 (T.ah N [.int .i64,.int .i64,.int .i64,.int .i64] fun Y Z a0 a1 =>
 T.ah y [.int .i64,.int .i64,.int .i64,.int .i64] fun a2 a3 a4 a5 =>
 dr (Sx.ir (BinOp.eql) 25 (Operand.tmp 70) (Operand.tmp 71) (.agg #[vI Y,vI Z,vI a0,vI a1]) (.agg #[vI a2,vI a3,vI a4,vI a5])) fun a6 =>
 cond a6
 (cond x
 (aT 11 [] fun a7 =>
 T.ret (.bool a7))
 bC)
 bC))
 (T.ah N [.int .i64,.int .i64,.int .i64,.int .i64] fun Y Z a0 a1 =>
 T.ah y [.int .i64,.int .i64,.int .i64,.int .i64] fun a2 a3 a4 a5 =>
 dr (Sx.ir (BinOp.eql) 25 (Operand.tmp 70) (Operand.tmp 71) (.agg #[vI Y,vI Z,vI a0,vI a1]) (.agg #[vI a2,vI a3,vI a4,vI a5])) fun a6 =>
 cond a6
 (cond x
 (aT 11 [] fun a7 =>
 T.ret (.bool a7))
 bC)
 bC)))
 bC))
def jM (a:ZC) (b c:Nat) (d:ZC) (e f:Nat) (g:ZC) (h i:Nat):bQ Tryz.prog [] Tryz.f5 [.slice a b c,.slice d e f,.slice g h i]=fL a b c d e f g h i:=az
def xt (a:ZC) (b:ZC) (c d:Nat):T :=
 T.new [vI 0,vI 0,vI 0,vI 0] 25 fun e =>
 cond (/-?Option.isSome.match_1-/ match a with
 | some val=>false
 | none=>true)
 (T.aE e [vI 0,vI 0,vI 0,vI 0] <|
 T.ah e [.int .i64,.int .i64,.int .i64,.int .i64] fun f g h i =>
 br #[.agg #[vI f,vI g,vI h,vI i],.bool false])
 (bK 20 [.pointer a] false [(true,[.pointer 92,.map 9 4])] fun f g =>
 T.new [.pointer none,.map none] 60 fun h =>
 T.aE h [.pointer f,.map g] <|
 cD 21 [.pointer a] fun i =>
 T.loop [cg,aR] [.bool false,vI 0] fun j k =>
 cond (decide (k<i))
 (T.loop [cg,aR] [.bool j,vI 0] fun l m =>
 cond (decide (m<(2:Int)))
 (bK 22 [.pointer a,vI k,vI m] false [(false,[.slice 71])] fun n o p =>
 T.loop [cg,aR] [.bool l,vI 0] fun q r =>
 bG r o
 (bf r o n fun s =>
 T.ah (s.add (aQ r 10)) (yI 117) fun t u v w x y z A B C D E =>
 T.new [vI 0,bT,vI 0,vI 0,vI 0,.int .i32 0,vI 0,bi,aH 0,vI 0] 71 fun F =>
 T.aE F [vI t,.string u,vI v,vI w,vI x,.int .i32 y,vI z,.slice A B C,aH D,vI E] <|
 T.loop [cg,aR] [.bool q,vI 1] fun G H =>
 cond (decide (H<=(4:Int)))
 (aT 23 [.slice b c d,vI H] fun I =>
 cond I
 (T.ah h [.pointer 92,.map 9 4] fun J K =>
 T.ah F (yI 117) fun L M N O P Q R S U V W X =>
 aT 24 [.agg #[.pointer J,.map K],.agg #[vI L,.string M,vI N,vI O,vI P,.int .i32 Q,vI R,.slice S U V,aH W,vI X],vI m,vI H] fun Y =>
 cond Y
 (T.aE e [vI k,vI m,vI r,vI H] <|
 T.ah e [.int .i64,.int .i64,.int .i64,.int .i64] fun Z a0 a1 a2 =>
 br #[.agg #[vI Z,vI a0,vI a1,vI a2],.bool true])
 (T.again 3 [.bool G,bh H]))
 (T.again 3 [.bool G,bh H]))
 (T.again 2 [.bool G,bh r]))
 (T.again 1 [.bool q,bh m]))
 (T.again 0 [.bool l,bh k]))
 (T.aE e [vI 0,vI 0,vI 0,vI 0] <|
 T.ah e [.int .i64,.int .i64,.int .i64,.int .i64] fun l m n o =>
 br #[.agg #[vI l,vI m,vI n,vI o],.bool false]))
def An (a:ZC) (b:ZC) (c d:Nat):bQ Tryz.prog [] Tryz.f10 [.pointer a,.slice b c d]=xt a b c d:=az
def zM (a:ZC):T :=
 T.new [.pointer none,.map none] 60 fun b =>
 bR (Instr.makeMap 58 none) false [(false,[.map 0 0])] fun c =>
 bK 39 [.pointer a] false [(false,[.slice 112])] fun d e f =>
 T.loop [aR] [vI 0] fun g =>
 bG g e
 (bf g e d fun h =>
 T.ah (h.add (aQ g 4)) [.int .i64,.int .i64,.int .i64,.string] fun i j k l =>
 T.new [vI 0,vI 0,vI 0,bT] 112 fun m =>
 T.aE m [vI i,vI j,vI k,.string l] <|
 T.ah (m.add 1) [.int .i64] fun n =>
 gF 40 [vI g] fun o =>
 T.bj [((m.add 1),[vI n])] <|
 T.need ((((1+o.size):Nat):Int)<=(9223372036854775807:Int)) <|
 T.ei Tryz.prog (Instr.mapUpdate 58 (.map c) (.string (⟨#[76]⟩++o)) (.bool (n==(0:Int)))) <|
 T.again 0 [bh g])
 (T.aE b [.pointer a,.map c] <|
 T.ah b [.pointer 92,.map 9 4] fun h i =>
 T.ret (.agg #[.pointer h,.map i]))
def As (a:ZC):bQ Tryz.prog [] Tryz.f20 [.pointer a]=zM a:=az
def fz (a:ZC) (b c:Nat) (d:Int):T :=
 cD 43 [.slice a b c,vI d] fun e =>
 T.ret (.bool (decide (e>=(0:Int))))
def iS (a:ZC) (b c:Nat) (d:Int):bQ Tryz.prog [] Tryz.f23 [.slice a b c,vI d]=fz a b c d:=az
def gf (a:ZC) (b c:Nat) (d:Int):T :=
 T.loop [aR,aR] [vI 0,vI 0] fun e f =>
 bG f b
 (bf f b a fun g =>
 T.ah (g.add (aQ f 1)) [.int .i64] fun h =>
 cond (d==h)
 (T.ret (vI f))
 (T.again 0 [vI e,bh f]))
 (T.ret (vI (-1:Int)))
def ka (a:ZC) (b c:Nat) (d:Int):bQ Tryz.prog [] Tryz.f43 [.slice a b c,vI d]=gf a b c d:=az
def gp (a:ZC) (b:Option Nat) (c:Int) (d:ZA) (e:Int) (f:Int) (g:Int) (h:Int) (i:Int) (j:ZC) (k l:Nat) (m:Int) (n:Int) (o:Int) (p:Int):T :=
 T.new [.pointer a,.map b] 60 fun q =>
 T.new [vI c,.string d,vI e,vI f,vI g,.int .i32 h,vI i,.slice j k l,aH m,vI n] 71 fun r =>
 T.ah (r.add 2) [.int .i64] fun s =>
 bK 44 [vI s] true [(true,[.string,.int .u8,.int .i64]),cg] fun t u v w =>
 T.new [bT,.int .u8 0,vI 0] 120 fun x =>
 T.aE x [.string t,.int .u8 u,vI v] <|
 T.ah r [.int .i64] fun y =>
 cond (p==(1:Int))
 (cond (y==(2:Int))
 (T.ah x [.string] fun z =>
 T.ret (.bool ((ByteArray.toList z)==[(Tp 106#8),(Tp 114#8)])))
 bC)
 (cond (p==(2:Int))
 (T.ah (r.add 7) [.slice 117] fun z A B =>
 cond ((A:Int)==(1:Int))
 (T.ah (r.add 7) [.slice 117] fun C D E =>
 T.need (iG 0 D) <|
 T.bF C fun F =>
 T.ah (F.add 1) [.int .u32] fun G =>
 cond (G==(1:Int))
 (T.ah ((r.add 7).add 1) [.int .u32] fun H =>
 cond (H==(0:Int))
 (T.ah (q.add 1) [.map 9 4] fun I =>
 T.ah (r.add 7) [.slice 117] fun J K L =>
 T.need (iG 0 K) <|
 T.bF J fun M =>
 T.ah M [.string] fun N =>
 dr (Instr.lookup 58 (.map I) (.string N) false) fun O =>
 T.bj [((r.add 7),[.slice J K L]),(((r.add 7).add 1),[aH H]),((F.add 1),[aH G]),((r.add 7),[.slice C D E]),((r.add 7),[.slice z A B])] <|
 cond (y==(2:Int))
 (T.ah (r.add 2) [.int .i64] fun P =>
 aT 45 [vI P] fun Q =>
 cond Q
 (T.ret (.bool (!O)))
 bC)
 bC)
 (cond (y==(2:Int))
 (T.ah (r.add 2) [.int .i64] fun I =>
 aT 45 [vI I] fun J =>
 cond J
 dL
 bC)
 bC))
 (cond (y==(2:Int))
 (T.ah (r.add 2) [.int .i64] fun H =>
 aT 45 [vI H] fun I =>
 cond I
 dL
 bC)
 bC))
 (cond (y==(2:Int))
 (T.ah (r.add 2) [.int .i64] fun C =>
 aT 45 [vI C] fun D =>
 cond D
 dL
 bC)
 bC))
 (cond (p==(3:Int))
 (T.ah r [.int .i64] fun z =>
 cond (z != (6:Int))
 (cond (y==(2:Int))
 (T.ah (x.add 2) [.int .i64] fun A =>
 cond (A==(10:Int))
 (T.ah (r.add 7) [.slice 117] fun B C D =>
 aT 46 [.slice B C D,.func (Fn.func 47) #[] #[.pointer (some q)]] fun E =>
 T.ret (.bool E))
 (T.ah (x.add 2) [.int .i64] fun B =>
 cond (!(B==(11:Int)))
 bC
 (T.ah (r.add 7) [.slice 117] fun C D E =>
 aT 46 [.slice C D E,.func (Fn.func 47) #[] #[.pointer (some q)]] fun F =>
 T.ret (.bool F))))
 bC)
 (T.ah (r.add 7) [.slice 117] fun A B C =>
 aT 46 [.slice A B C,.func (Fn.func 47) #[] #[.pointer (some q)]] fun D =>
 T.ret (.bool D)))
 (cond (p==(4:Int))
 (T.ah r [.int .i64] fun z =>
 cond (z==(3:Int))
 (T.ret (.bool (o==(0:Int))))
 bC)
 bC)))
def kM (a:ZC) (b:Option Nat) (c:Int) (d:ZA) (e:Int) (f:Int) (g:Int) (h:Int) (i:Int) (j:ZC) (k l:Nat) (m:Int) (n:Int) (o:Int) (p:Int):bQ Tryz.prog [] Tryz.f24 [.agg #[.pointer a,.map b],.agg #[vI c,.string d,vI e,vI f,vI g,.int .i32 h,vI i,.slice j k l,.int .u32 m,vI n],vI o,vI p]=gp a b c d e f g h i j k l m n o p:=az
def cY (a:ZC) (b:Nat) (c:Nat) (d:Zx):T :=
 cD 70 [.slice a b c,.func (Fn.func 47) #[] #[.pointer (some d)]] fun e =>
 T.ret (.bool (decide (e>=(0:Int))))
def eh (a:ZC) (b:Nat) (c:Nat) (d:Zx):bQ Tryz.prog [] Tryz.f46 [.slice a b c,.func (Fn.func 47) #[] #[.pointer (some d)]]=cY a b c d:=az
def df (a:ZC) (b:Nat) (c:Nat) (d:Zx):T :=
 T.loop [aR,aR] [vI 0,vI 0] fun e f =>
 bG f b
 (bf f b a fun g =>
 T.ah (g.add (aQ f 2)) [.string,.int .u32] fun h i =>
 T.sI Tryz.prog (.func (Fn.func 47) #[] #[.pointer (some d)]) [.agg #[.string h,aH i]] false [cg] fun j =>
 cond j
 (T.ret (vI f))
 (T.again 0 [vI e,bh f]))
 (T.ret (vI (-1:Int)))
def eF (a:ZC) (b:Nat) (c:Nat) (d:Zx):bQ Tryz.prog [] Tryz.f70 [.slice a b c,.func (Fn.func 47) #[] #[.pointer (some d)]]=df a b c d:=az
def fy (a:ZA) (b:Int) (c:Zx):T :=
 T.new [.string a,aH b] 117 fun d =>
 T.ah (c.add 1) [.map 9 4] fun e =>
 T.ah d [.string] fun f =>
 dr (Instr.lookup 58 (.map e) (.string f) false) fun g =>
 T.ret (.bool g)
def iQ (a:ZA) (b:Int) (c:Zx):bQ Tryz.prog [] Tryz.f47 [.agg #[.string a,.int .u32 b],.pointer (some c)]=fy a b c:=az
end Go.Sx
