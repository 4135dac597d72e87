/- Trees of functions. No condition. -/
import Derived.Test.YthbffkdafjboiaaGreatDoorSxF
import Derived.Test.YthbffkdafjboiaaGreatDoorProg
import Derived.KernelRfl
set_option linter.all false
set_option maxRecDepth 100000
set_option maxHeartbeats 4000000
namespace Go.Sx
open Go.Proofs
def gI (a:Xac) (b:Option Nat) (c:Int) (d:Xaa) (e:Int) (f:Int) (g:Int) (h:Int) (i:Int) (j:Xac) (k l:Nat) (m:Int) (n:Int) (o:Int) (p:Int):T :=
 T.new [.pointer a,.map b] 60 fun q =>
 T.new [vI c,.string d,vI e,vI f,vI g,.int .i32 h,vI i,.slice j k l,aH m,vI n] 71 fun r =>
 T.ah (r.add 2) [.int .i64] fun s =>
 bJ 44 [vI s] true [(true,[.string,.int .u8,.int .i64]),bR] fun t u v w =>
 T.new [bX,.int .u8 0,vI 0] 120 fun x =>
 T.aC x [.string t,.int .u8 u,vI v] <|
 T.ah r [.int .i64] fun y =>
 cond (p==(1:Int))
 (cond (y==(2:Int))
 (T.ah x [.string] fun z =>
 T.ret (.bool ((ByteArray.toList z)==[(K3 106#8),(K3 114#8)])))
 bC)
 (cond (p==(2:Int))
 (T.ah (r.add 7) [.slice 117] fun z A B =>
 cond ((A:Int)==(1:Int))
 (T.ah (r.add 7) [.slice 117] fun C D E =>
 T.need (fA 0 D) <|
 T.bi C fun F =>
 T.ah (F.add 1) [.int .u32] fun G =>
 cond (G==(1:Int))
 (T.ah ((r.add 7).add 1) [.int .u32] fun H =>
 cond (H==(0:Int))
 (T.ah (q.add 1) [.map 9 4] fun I =>
 T.ah (r.add 7) [.slice 117] fun J K L =>
 T.need (fA 0 K) <|
 T.bi J fun M =>
 T.ah M [.string] fun N =>
 eA (Instr.lookup 58 (.map I) (.string N) false) fun O =>
 T.bj [((r.add 7),[.slice J K L]),(((r.add 7).add 1),[aH H]),((F.add 1),[aH G]),((r.add 7),[.slice C D E]),((r.add 7),[.slice z A B])] <|
 cond (y==(2:Int))
 (T.ah (r.add 2) [.int .i64] fun P =>
 aX 45 [vI P] fun Q =>
 cond Q
 (T.ret (.bool (!O)))
 bC)
 bC)
 (cond (y==(2:Int))
 (T.ah (r.add 2) [.int .i64] fun I =>
 aX 45 [vI I] fun J =>
 cond J
 dy
 bC)
 bC))
 (cond (y==(2:Int))
 (T.ah (r.add 2) [.int .i64] fun H =>
 aX 45 [vI H] fun I =>
 cond I
 dy
 bC)
 bC))
 (cond (y==(2:Int))
 (T.ah (r.add 2) [.int .i64] fun C =>
 aX 45 [vI C] fun D =>
 cond D
 dy
 bC)
 bC))
 (cond (p==(3:Int))
 (T.ah r [.int .i64] fun z =>
 cond (z != (6:Int))
 (cond (y==(2:Int))
 (T.ah (x.add 2) [.int .i64] fun A =>
 cond (A==(10:Int))
 (T.ah (r.add 7) [.slice 117] fun B C D =>
 aX 46 [.slice B C D,.func (Fn.func 47) #[] #[.pointer (some q)]] fun E =>
 T.ret (.bool E))
 (T.ah (x.add 2) [.int .i64] fun B =>
 cond (!(B==(11:Int)))
 bC
 (T.ah (r.add 7) [.slice 117] fun C D E =>
 aX 46 [.slice C D E,.func (Fn.func 47) #[] #[.pointer (some q)]] fun F =>
 T.ret (.bool F))))
 bC)
 (T.ah (r.add 7) [.slice 117] fun A B C =>
 aX 46 [.slice A B C,.func (Fn.func 47) #[] #[.pointer (some q)]] fun D =>
 T.ret (.bool D)))
 (cond (p==(4:Int))
 (T.ah r [.int .i64] fun z =>
 cond (z==(3:Int))
 (T.ret (.bool (o==(0:Int))))
 bC)
 bC)))
def lr (a:Xac) (b:Option Nat) (c:Int) (d:Xaa) (e:Int) (f:Int) (g:Int) (h:Int) (i:Int) (j:Xac) (k l:Nat) (m:Int) (n:Int) (o:Int) (p:Int):bM Tryz.prog [] Tryz.f24 [.agg #[.pointer a,.map b],.agg #[vI c,.string d,vI e,vI f,vI g,.int .i32 h,vI i,.slice j k l,.int .u32 m,vI n],vI o,vI p]=gI a b c d e f g h i j k l m n o p:=az
def da (a:Xac) (b:Nat) (c:Nat) (d:Xax):T :=
 ct 70 [.slice a b c,.func (Fn.func 47) #[] #[.pointer (some d)]] fun e =>
 T.ret (.bool (decide (e>=(0:Int))))
def eu (a:Xac) (b:Nat) (c:Nat) (d:Xax):bM Tryz.prog [] Tryz.f46 [.slice a b c,.func (Fn.func 47) #[] #[.pointer (some d)]]=da a b c d:=az
def dk (a:Xac) (b:Nat) (c:Nat) (d:Xax):T :=
 T.loop [aP,aP] [vI 0,vI 0] fun e f =>
 bz f b
 (bf f b a fun g =>
 T.ah (g.add (aK f 2)) [.string,.int .u32] fun h i =>
 T.tH Tryz.prog (.func (Fn.func 47) #[] #[.pointer (some d)]) [.agg #[.string h,aH i]] false [bR] fun j =>
 cond j
 (T.ret (vI f))
 (T.again 0 [vI e,bg f]))
 (T.ret (vI (-1:Int)))
def eK (a:Xac) (b:Nat) (c:Nat) (d:Xax):bM Tryz.prog [] Tryz.f70 [.slice a b c,.func (Fn.func 47) #[] #[.pointer (some d)]]=dk a b c d:=az
def fB (a:Xaa) (b:Int) (c:Xax):T :=
 T.new [.string a,aH b] 117 fun d =>
 T.ah (c.add 1) [.map 9 4] fun e =>
 T.ah d [.string] fun f =>
 eA (Instr.lookup 58 (.map e) (.string f) false) fun g =>
 T.ret (.bool g)
def iZ (a:Xaa) (b:Int) (c:Xax):bM Tryz.prog [] Tryz.f47 [.agg #[.string a,.int .u32 b],.pointer (some c)]=fB a b c:=az
def gJ (a:Xac) (b c:Nat) (d:Xac) (e f:Nat):T :=
 bJ 12 [.slice a b c] true [(false,[.pointer 92]),(false,[.pointer 81]),bR,bR] fun g h i j =>
 cond (!i)
 (cond j
 (aX 11 [] fun k =>
 T.ret (.bool k))
 bC)
 (bJ 13 [.slice d e f,vI (-7:Int)] false [(false,[.slice 3])] fun k l m =>
 T.need (((0:Int)<=(0:Int))/\(((0:Int)<=(e:Int))/\((e:Int)<=(m:Int)))) <|
 bJ 10 [.pointer g,.slice (if (m=0) then k else (Option.map (fun n=>Addr.add n 0) k)) ((Int.toNat (e:Int))-0) (m-0)] true [(true,[.int .i64,.int .i64,.int .i64,.int .i64]),bR] fun n o p q r =>
 T.new [vI 0,vI 0,vI 0,vI 0] 25 fun s =>
 T.aC s [vI n,vI o,vI p,vI q] <|
 bJ 14 [.pointer h,.slice d e f] true [(true,[.int .i64,.int .i64,.int .i64,.int .i64]),bR] fun t u v w x =>
 T.new [vI 0,vI 0,vI 0,vI 0] 36 fun y =>
 T.aC y [vI t,vI u,vI v,vI w] <|
 bJ 8 [.pointer g] true [(true,[.int .i64,.int .i64,.int .i64,.int .i64]),bR] fun z A B C D =>
 T.new [vI 0,vI 0,vI 0,vI 0] 25 fun E =>
 T.aC E [vI z,vI A,vI B,vI C] <|
 bt (Instr.buildSlice 31 3 #[(0,vI 1),(1,vI 2),(2,vI 3)]) fun F G H =>
 bJ 14 [.pointer h,.slice F G H] true [(true,[.int .i64,.int .i64,.int .i64,.int .i64]),bR] fun I J K L M =>
 T.new [vI 0,vI 0,vI 0,vI 0] 36 fun N =>
 T.aC N [vI I,vI J,vI K,vI L] <|
 bJ 9 [.pointer g] true [(true,[.int .i64,.int .i64,.int .i64,.int .i64]),bR] fun O P Q R S =>
 T.new [vI 0,vI 0,vI 0,vI 0] 25 fun U =>
 T.aC U [vI O,vI P,vI Q,vI R] <|
 bt (Instr.buildSlice 31 2 #[(0,vI 2),(1,vI 4)]) fun V W X =>
 bJ 14 [.pointer h,.slice V W X] true [(true,[.int .i64,.int .i64,.int .i64,.int .i64]),bR] fun Y Z a0 a1 a2 =>
 T.new [vI 0,vI 0,vI 0,vI 0] 36 fun a3 =>
 T.aC a3 [vI Y,vI Z,vI a0,vI a1] <|
 T.ah s [.int .i64,.int .i64,.int .i64,.int .i64] fun a4 a5 a6 a7 =>
 T.ah y [.int .i64,.int .i64,.int .i64,.int .i64] fun a8 a9 b0 b1 =>
 aX 15 [.agg #[vI a4,vI a5,vI a6,vI a7],.agg #[vI a8,vI a9,vI b0,vI b1]] fun b2 =>
 cond b2
 (cond (r==x)
 (T.ah E [.int .i64,.int .i64,.int .i64,.int .i64] fun b3 b4 b5 b6 =>
 T.ah N [.int .i64,.int .i64,.int .i64,.int .i64] fun b7 b8 b9 c0 =>
 aX 15 [.agg #[vI b3,vI b4,vI b5,vI b6],.agg #[vI b7,vI b8,vI b9,vI c0]] fun c1 =>
 cond c1
 (cond (D==(!M))
 (T.ah U [.int .i64,.int .i64,.int .i64,.int .i64] fun c2 c3 c4 c5 =>
 T.ah a3 [.int .i64,.int .i64,.int .i64,.int .i64] fun c6 c7 c8 c9 =>
 aX 15 [.agg #[vI c2,vI c3,vI c4,vI c5],.agg #[vI c6,vI c7,vI c8,vI c9]] fun d0 =>
 cond d0
 (cond (S==(!a2))
 (aX 16 [.slice k l m,.slice d e f,vI (-7:Int)] fun d1 =>
 cond d1
 (aX 11 [] fun d2 =>
 T.ret (.bool d2))
 bC)
 bC)
 bC)
 bC)
 bC)
 bC)
 bC)
def ly (a:Xac) (b c:Nat) (d:Xac) (e f:Nat):bM Tryz.prog [] Tryz.f4 [.slice a b c,.slice d e f]=gJ a b c d e f:=az
def ri (a:Xac):T :=
 T.new [vI 0,vI 0,vI 0,vI 0] 25 fun b =>
 bt (Instr.buildSlice 31 2 #[(0,vI 2),(1,vI 4)]) fun c d e =>
 bJ 19 [.pointer a,.slice c d e] true [(true,[.int .i64,.int .i64,.int .i64,.int .i64]),bR] fun f g h i j =>
 T.aC b [vI f,vI g,vI h,vI i] <|
 T.ah b [.int .i64,.int .i64,.int .i64,.int .i64] fun k l m n =>
 bn #[.agg #[vI k,vI l,vI m,vI n],.bool j]
def vR (a:Xac):bM Tryz.prog [] Tryz.f9 [.pointer a]=ri a:=az
def gi (a:Xac) (b c:Nat) (d:Int):T :=
 bt (Instr.makeSlice 31 (vI (bm ((b:Int)+(80:Int)))) (vI (bm ((b:Int)+(80:Int))))) fun e f g =>
 bU (Builtin.copy_ #[31,31] 3 #[.slice e f g,.slice a b c]) false [aP] fun h =>
 T.loop [aP] [vI (b:Int)] fun i =>
 bz i f
 (bf i f e fun j =>
 T.aC (j.add (aK i 1)) [vI d] <|
 T.again 0 [bg i])
 (T.ret (.slice e f g))
def kC (a:Xac) (b c:Nat) (d:Int):bM Tryz.prog [] Tryz.f13 [.slice a b c,vI d]=gi a b c d:=az
def kP (a:Xac) (b:Xac) (c d:Nat):T :=
 T.new [vI 0,vI 0,vI 0,vI 0] 36 fun e =>
 T.loop [bR,aP] [.bool false,vI 0] fun f g =>
 T.bi a fun h =>
 T.ah (h.add 2) [.slice 43] fun i j k =>
 bz g j
 (T.loop [bR,aP] [.bool f,vI 0] fun l m =>
 T.bi a fun n =>
 T.ah (n.add 2) [.slice 43] fun o p q =>
 bf g p o fun r =>
 T.ah (r.add (aK g 1)) [.slice 71] fun s t u =>
 bz m t
 (T.bi a fun v =>
 T.ah (v.add 2) [.slice 43] fun w x y =>
 bf g x w fun z =>
 T.ah (z.add (aK g 1)) [.slice 71] fun A B C =>
 bf m B A fun D =>
 T.ah (D.add (aK m 10)) (yI 117) fun E F G H I J K L M N O P =>
 ct 27 [.pointer a,.agg #[vI E,.string F,vI G,vI H,vI I,.int .i32 J,vI K,.slice L M N,aH O,vI P],vI 0,.slice b c d] fun Q =>
 cond (decide (Q>(0:Int)))
 (T.aC e [vI g,vI 0,vI m,vI Q] <|
 T.ah e [.int .i64,.int .i64,.int .i64,.int .i64] fun R S U V =>
 bn #[.agg #[vI R,vI S,vI U,vI V],.bool true])
 (T.again 1 [.bool l,bg m]))
 (T.loop [bR,aP] [.bool l,vI 0] fun v w =>
 T.bi a fun x =>
 T.ah (x.add 3) [.slice 43] fun y z A =>
 bf g z y fun B =>
 T.ah (B.add (aK g 1)) [.slice 71] fun C D E =>
 bz w D
 (T.bi a fun F =>
 T.ah (F.add 3) [.slice 43] fun G H I =>
 bf g H G fun J =>
 T.ah (J.add (aK g 1)) [.slice 71] fun K L M =>
 bf w L K fun N =>
 T.ah (N.add (aK w 10)) (yI 117) fun O P Q R S U V W X Y Z a0 =>
 ct 27 [.pointer a,.agg #[vI O,.string P,vI Q,vI R,vI S,.int .i32 U,vI V,.slice W X Y,aH Z,vI a0],vI 1,.slice b c d] fun a1 =>
 cond (decide (a1>(0:Int)))
 (T.aC e [vI g,vI 1,vI w,vI a1] <|
 T.ah e [.int .i64,.int .i64,.int .i64,.int .i64] fun a2 a3 a4 a5 =>
 bn #[.agg #[vI a2,vI a3,vI a4,vI a5],.bool true])
 (T.again 2 [.bool v,bg w]))
 (T.again 0 [.bool v,bg g])))
 (T.aC e [vI 0,vI 0,vI 0,vI 0] <|
 T.ah e [.int .i64,.int .i64,.int .i64,.int .i64] fun l m n o =>
 bn #[.agg #[vI l,vI m,vI n,vI o],.bool false])
def pY (a:Xac) (b:Xac) (c d:Nat):bM Tryz.prog [] Tryz.f14 [.pointer a,.slice b c d]=kP a b c d:=az
def lK (a:Int) (b:Int) (c:Int) (d:Int) (e:Int) (f:Int) (g:Int) (h:Int):T :=
 T.new [vI a,vI b,vI c,vI d] 25 fun i =>
 T.new [vI e,vI f,vI g,vI h] 36 fun j =>
 T.ah i [.int .i64] fun k =>
 T.ah j [.int .i64] fun l =>
 cond (k==l)
 (T.ah (i.add 1) [.int .i64] fun m =>
 T.ah (j.add 1) [.int .i64] fun n =>
 cond (m==n)
 (T.ah (i.add 2) [.int .i64] fun o =>
 T.ah (j.add 2) [.int .i64] fun p =>
 cond (o==p)
 (T.ah (i.add 3) [.int .i64] fun q =>
 T.ah (j.add 3) [.int .i64] fun r =>
 T.ret (.bool (q==r)))
 bC)
 bC)
 bC
def qw (a:Int) (b:Int) (c:Int) (d:Int) (e:Int) (f:Int) (g:Int) (h:Int):bM Tryz.prog [] Tryz.f15 [.agg #[vI a,vI b,vI c,vI d],.agg #[vI e,vI f,vI g,vI h]]=lK a b c d e f g h:=az
def fZ (a:Xac) (b c:Nat) (d:Xac) (e f:Nat) (g:Int):T :=
 cond ((b:Int) != (bm ((e:Int)+(80:Int))))
 bC
 (T.need (((0:Int)<=(0:Int))/\(((0:Int)<=(e:Int))/\((e:Int)<=(c:Int)))) <|
 aX 28 [.slice (if (c=0) then a else (Option.map (fun h=>Addr.add h 0) a)) ((Int.toNat (e:Int))-0) (c-0),.slice d e f] fun h =>
 cond (!h)
 bC
 (T.loop [bR,aP] [.bool false,vI (e:Int)] fun i j =>
 bz j b
 (bf j b a fun k =>
 T.ah (k.add (aK j 1)) [.int .i64] fun l =>
 cond (l != g)
 bC
 (T.again 0 [.bool i,bg j]))
 dy))
def j2 (a:Xac) (b c:Nat) (d:Xac) (e f:Nat) (g:Int):bM Tryz.prog [] Tryz.f16 [.slice a b c,.slice d e f,vI g]=fZ a b c d e f g:=az
def iG (a:Xac) (b:Int) (c:Xaa) (d:Int) (e:Int) (f:Int) (g:Int) (h:Int) (i:Xac) (j k:Nat) (l:Int) (m:Int) (n:Int) (o:Xac) (p q:Nat):T :=
 T.new [vI b,.string c,vI d,vI e,vI f,.int .i32 g,vI h,.slice i j k,aH l,vI m] 71 fun r =>
 T.loop [aP,aP] [vI 0,vI 1] fun s t =>
 cond (decide (t<=(4:Int)))
 (T.loop [bR,aP] [.bool false,vI 0] fun u v =>
 bz v p
 (cond u
 (T.again 1 [.bool true,bg v])
 (bf v p o fun w =>
 T.ah (w.add (aK v 1)) [.int .i64] fun x =>
 T.again 1 [.bool (x==t),bg v]))
 (cond u
 (T.ah r (yI 117) fun w x y z A B C D E F G H =>
 aX 54 [.pointer a,.agg #[vI w,.string x,vI y,vI z,vI A,.int .i32 B,vI C,.slice D E F,aH G,vI H],vI n,vI t] fun I =>
 cond I
 (T.ret (vI t))
 (T.again 0 [vI s,bg t]))
 (T.again 0 [vI s,bg t])))
 (T.ret (vI 0))
def mI (a:Xac) (b:Int) (c:Xaa) (d:Int) (e:Int) (f:Int) (g:Int) (h:Int) (i:Xac) (j k:Nat) (l:Int) (m:Int) (n:Int) (o:Xac) (p q:Nat):bM Tryz.prog [] Tryz.f27 [.pointer a,.agg #[vI b,.string c,vI d,vI e,vI f,.int .i32 g,vI h,.slice i j k,.int .u32 l,vI m],vI n,.slice o p q]=iG a b c d e f g h i j k l m n o p q:=az
def gH (a:Xac) (b c:Nat) (d:Xac) (e f:Nat):T :=
 cond ((b:Int) != (e:Int))
 bC
 (T.loop [bR,aP] [.bool false,vI 0] fun g h =>
 bz h b
 (bf h b a fun i =>
 T.ah (i.add (aK h 1)) [.int .i64] fun j =>
 bf h e d fun k =>
 T.ah (k.add (aK h 1)) [.int .i64] fun l =>
 cond (j != l)
 bC
 (T.again 0 [.bool g,bg h]))
 dy)
def lx (a:Xac) (b c:Nat) (d:Xac) (e f:Nat):bM Tryz.prog [] Tryz.f28 [.slice a b c,.slice d e f]=gH a b c d e f:=az
def jl (a:Xac) (b:Int) (c:Xaa) (d:Int) (e:Int) (f:Int) (g:Int) (h:Int) (i:Xac) (j k:Nat) (l:Int) (m:Int) (n:Int) (o:Int):T :=
 T.new [vI b,.string c,vI d,vI e,vI f,.int .i32 g,vI h,.slice i j k,aH l,vI m] 71 fun p =>
 T.join [aP]
 (T.ah p [.int .i64] fun q =>
 cond (q==(2:Int))
 (T.ah (p.add 2) [.int .i64] fun r =>
 ct 78 [vI r] fun s =>
 T.again 0 [vI s])
 (T.again 0 [vI 0])) fun q =>
 cond (o==(1:Int))
 (T.ah p [.int .i64] fun r =>
 cond (r==(2:Int))
 (T.ah (p.add 2) [.int .i64] fun s =>
 bJ 79 [] false [(false,[.slice 162])] fun t u v =>
 T.bj [((p.add 2),[vI s]),(p,[vI r])] <|
 T.need (((0:Int)<=(bm (s-(1:Int))))/\((bm (s-(1:Int)))<(u:Int))) <|
 T.bi t fun w =>
 T.ah (w.add ((Int.toNat (bm (s-(1:Int))))*3)) [.string] fun x =>
 T.ret (.bool ((ByteArray.toList x)==[(K3 106#8),(K3 114#8)])))
 bC)
 (cond (o==(2:Int))
 (T.join [bR]
 (cond (q != (12:Int))
 (cond (q != (13:Int))
 bC
 (T.again 0 [.bool false]))
 (T.again 0 [.bool false])) fun r =>
 T.ah (p.add 7) (yL 117) fun s t u v =>
 T.bi a fun w =>
 T.ah (w.add 1) [.slice 158] fun x y z =>
 ct 80 [.agg #[.slice s t u,aH v],vI (y:Int)] fun A =>
 T.bj [((w.add 1),[.slice x y z])] <|
 cond (decide (A<(0:Int)))
 dy
 (T.bi a fun B =>
 T.ah (B.add 1) [.slice 158] fun C D E =>
 bf A D C fun F =>
 T.ah ((F.add (aK A 4)).add 1) [.int .i64] fun G =>
 T.ret (.bool (G != (0:Int)))))
 (cond (o==(3:Int))
 (T.join [bR]
 (T.ah p [.int .i64] fun r =>
 cond (r != (6:Int))
 (cond (q != (10:Int))
 (cond (q != (11:Int))
 bC
 (T.again 0 [.bool false]))
 (T.again 0 [.bool false]))
 (T.again 0 [.bool false])) fun r =>
 T.loop [bR,aP] [.bool r,vI 0] fun s t =>
 T.ah (p.add 7) [.slice 117] fun u v w =>
 bz t v
 (T.ah (p.add 7) [.slice 117] fun x y z =>
 bf t y x fun A =>
 T.ah (A.add (aK t 2)) [.string] fun B =>
 T.bi a fun C =>
 T.ah (C.add 1) [.slice 158] fun D E F =>
 bt (Instr.buildSlice 66 1 #[(0,.agg #[.string B,aH 1])]) fun G H I =>
 T.bj [((C.add 1),[.slice D E F]),((A.add (aK t 2)),[.string B]),((p.add 7),[.slice x y z])] <|
 ct 80 [.agg #[.slice G H I,aH 0],vI (E:Int)] fun J =>
 T.bj [((C.add 1),[.slice D E F]),((A.add (aK t 2)),[.string B]),((p.add 7),[.slice x y z])] <|
 cond (decide (J>=(0:Int)))
 (T.bi a fun K =>
 T.ah (K.add 1) [.slice 158] fun L M N =>
 bf J M L fun O =>
 T.ah ((O.add (aK J 4)).add 1) [.int .i64] fun P =>
 cond (P==(0:Int))
 dy
 (T.again 0 [.bool s,bg t]))
 (T.again 0 [.bool s,bg t]))
 bC)
 (T.ah p [.int .i64] fun r =>
 cond (r==(3:Int))
 (T.ret (.bool (n==(0:Int))))
 bC)))
def nJ (a:Xac) (b:Int) (c:Xaa) (d:Int) (e:Int) (f:Int) (g:Int) (h:Int) (i:Xac) (j k:Nat) (l:Int) (m:Int) (n:Int) (o:Int):bM Tryz.prog [1004,1010,1015] Tryz.f54 [.pointer a,.agg #[vI b,.string c,vI d,vI e,vI f,.int .i32 g,vI h,.slice i j k,.int .u32 l,vI m],vI n,vI o]=jl a b c d e f g h i j k l m n o:=az
def jt (a:Xac) (b c:Nat) (d:Int) (e:Int):T :=
 T.new [.slice a b c,aH d] 69 fun f =>
 T.ah f [.slice 117] fun g h i =>
 cond ((h:Int) != (1:Int))
 (T.ret (vI (-1:Int)))
 (T.ah f [.slice 117] fun j k l =>
 T.need (fA 0 k) <|
 T.bi j fun m =>
 T.ah (m.add 1) [.int .u32] fun n =>
 cond (n != (1:Int))
 (T.ret (vI (-1:Int)))
 (T.ah (f.add 1) [.int .u32] fun o =>
 cond (o != (0:Int))
 (T.ret (vI (-1:Int)))
 (T.ah f [.slice 117] fun p q r =>
 T.need (fA 0 q) <|
 T.bi p fun s =>
 T.ah s [.string] fun t =>
 ct 103 [.string t,vI e] fun u =>
 T.ret (vI u))))
def nS (a:Xac) (b c:Nat) (d:Int) (e:Int):bM Tryz.prog [] Tryz.f80 [.agg #[.slice a b c,.int .u32 d],vI e]=jt a b c d e:=az
def ji (a:Xaa) (b:Int):T :=
 cond (decide ((a.size:Int)<(2:Int)))
 (T.ret (vI (-1:Int)))
 (T.need (fA 0 a.size) <|
 cond ((cw a (0:Int)) != (76:Int))
 (T.ret (vI (-1:Int)))
 (T.need (fA 1 a.size) <|
 cond ((cw a (1:Int))==(48:Int))
 (cond (decide ((a.size:Int)>(2:Int)))
 (T.ret (vI (-1:Int)))
 (T.loop [aP,aP,aP] [vI 0,vI 0,vI 1] fun c d e =>
 cond (decide (e<(a.size:Int)))
 (T.need (dU e a.size) <|
 cond (decide ((cw a e)<(48:Int)))
 (T.ret (vI (-1:Int)))
 (T.need (dU e a.size) <|
 cond (decide ((cw a e)>(57:Int)))
 (T.ret (vI (-1:Int)))
 (cond (decide (e>(9:Int)))
 (T.ret (vI (-1:Int)))
 (T.need (dU e a.size) <|
 T.again 0 [vI c,vI (bm ((bm ((10:Int)*d))+(bm (IntKind.wrap .u8 ((cw a e)-(48:Int)))))),bg e]))))
 (cond (decide (d>=b))
 (T.ret (vI (-1:Int)))
 (T.ret (vI d)))))
 (T.loop [aP,aP,aP] [vI 0,vI 0,vI 1] fun c d e =>
 cond (decide (e<(a.size:Int)))
 (T.need (dU e a.size) <|
 cond (decide ((cw a e)<(48:Int)))
 (T.ret (vI (-1:Int)))
 (T.need (dU e a.size) <|
 cond (decide ((cw a e)>(57:Int)))
 (T.ret (vI (-1:Int)))
 (cond (decide (e>(9:Int)))
 (T.ret (vI (-1:Int)))
 (T.need (dU e a.size) <|
 T.again 0 [vI c,vI (bm ((bm ((10:Int)*d))+(bm (IntKind.wrap .u8 ((cw a e)-(48:Int)))))),bg e]))))
 (cond (decide (d>=b))
 (T.ret (vI (-1:Int)))
 (T.ret (vI d))))))
def nz (a:Xaa) (b:Int):bM Tryz.prog [] Tryz.f103 [.string a,vI b]=ji a b:=az
def Ys (o:Xac) (w:Nat) (p:Xac) (a:Xax):T :=
 cond (/-?Option.isSome.match_1-/ match p with
| some val=>false
| none=>true)
 (T.ret (.bool false))
 (T.ah a [.int .i64,.int .i64,.string] fun U V X =>
 T.ek Tryz.prog (Sx.kw (BinOp.neq) 54 (Operand.tmp 53) (Operand.tmp 54) (.agg #[vI U,vI V,.string X]) (.agg #[vI 0,vI 0,.string ⟨#[]⟩])) false [(false,[.bool])] fun Y =>
 cond Y
 (T.ret (.bool false))
 (T.call Tryz.prog 8 [.pointer o] true [(true,[.int .i64,.int .i64,.int .i64,.int .i64]),(false,[.bool])] fun Z n55 n56 n57 b58 =>
 T.new [vI 0,vI 0,vI 0,vI 0] 25 fun J =>
 T.aC J [vI Z,vI n55,vI n56,vI n57] <|
 T.call Tryz.prog 8 [.pointer p] true [(true,[.int .i64,.int .i64,.int .i64,.int .i64]),(false,[.bool])] fun n60 n61 n62 n63 O =>
 T.new [vI 0,vI 0,vI 0,vI 0] 25 fun d =>
 T.aC d [vI n60,vI n61,vI n62,vI n63] <|
 cond b58
 (cond (!O)
 (T.ah d [.int .i64,.int .i64,.int .i64,.int .i64] fun j u F G =>
 T.ek Tryz.prog (Sx.kw (BinOp.eql) 25 (Operand.tmp 71) (Operand.tmp 74) (.agg #[vI j,vI u,vI F,vI G]) (.agg #[vI (w:Int),vI 0,vI 0,vI 1])) false [(false,[.bool])] fun b70 =>
 cond b70
 (T.call Tryz.prog 11 [] false [(false,[.bool])] fun b71 =>
 T.ret (.bool b71))
 (T.ret (.bool false)))
 (T.ret (.bool false)))
 (cond (!O)
 (T.ah J [.int .i64,.int .i64,.int .i64,.int .i64] fun j u F G =>
 T.ah d [.int .i64,.int .i64,.int .i64,.int .i64] fun n70 n71 n72 n73 =>
 T.ek Tryz.prog (Sx.kw (BinOp.eql) 25 (Operand.tmp 83) (Operand.tmp 84) (.agg #[vI j,vI u,vI F,vI G]) (.agg #[vI n70,vI n71,vI n72,vI n73])) false [(false,[.bool])] fun b74 =>
 cond b74
 (T.call Tryz.prog 11 [] false [(false,[.bool])] fun b75 =>
 T.ret (.bool b75))
 (T.ret (.bool false)))
 (T.ret (.bool false)))))
section
variable (o:Xac) (x:Xac) (w v:Nat) (b:Xax) (y:List Xab)
end
def tu (a:Xac):T :=
 T.new [vI 0,vI 0,vI 0,vI 0] 25 fun b =>
 bt (Instr.buildSlice 31 3 #[(0,vI 1),(1,vI 2),(2,vI 3)]) fun c d e =>
 bJ 19 [.pointer a,.slice c d e] true [(true,[.int .i64,.int .i64,.int .i64,.int .i64]),bR] fun f g h i j =>
 T.aC b [vI f,vI g,vI h,vI i] <|
 T.ah b [.int .i64,.int .i64,.int .i64,.int .i64] fun k l m n =>
 bn #[.agg #[vI k,vI l,vI m,vI n],.bool j]
def xg (a:Xac):bM Tryz.prog [] Tryz.f8 [.pointer a]=tu a:=az
def uT (a:Xac) (b:Xac) (c d:Nat):T :=
 T.new [vI 0,vI 0,vI 0,vI 0] 25 fun e =>
 bJ 10 [.pointer a,.slice b c d] true [(true,[.int .i64,.int .i64,.int .i64,.int .i64]),bR] fun f g h i j =>
 T.new [vI 0,vI 0,vI 0,vI 0] 25 fun k =>
 T.aC k [vI f,vI g,vI h,vI i] <|
 T.ah k [.int .i64,.int .i64,.int .i64,.int .i64] fun l m n o =>
 cond (!j)
 (T.aC e [vI l,vI m,vI n,vI o] <|
 T.ah e [.int .i64,.int .i64,.int .i64,.int .i64] fun p q r s =>
 bn #[.agg #[vI p,vI q,vI r,vI s],.bool (!(/-?Option.isSome.match_1-/ match a with
 | some val=>false
 | none=>true))])
 (T.aC e [vI l,vI m,vI n,vI o] <|
 T.ah e [.int .i64,.int .i64,.int .i64,.int .i64] fun p q r s =>
 bn #[.agg #[vI p,vI q,vI r,vI s],.bool false])
def yG (a:Xac) (b:Xac) (c d:Nat):bM Tryz.prog [] Tryz.f19 [.pointer a,.slice b c d]=uT a b c d:=az
end Go.Sx
