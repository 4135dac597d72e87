/- Trees of functions. No condition. -/
import Derived.Test.YthbffkdafjboiaaGreatDoorSxF
import Derived.Test.YthbffkdafjboiaaGreatDoorProg
import Derived.KernelRfl
set_option linter.all false
set_option maxRecDepth 100000
set_option maxHeartbeats 4000000
namespace Go.Sx
open Go.Proofs
def j6 (a:Int):T :=
 bJ 79 [] false [(false,[.slice 162])] fun b c d =>
 cond (decide (a<(1:Int)))
 (T.ret (vI 0))
 (cond (decide (a>(c:Int)))
 (T.ret (vI 0))
 (T.need (((0:Int)<=(bm (a-(1:Int))))/\((bm (a-(1:Int)))<(c:Int))) <|
 T.bi b fun e =>
 T.ah ((e.add ((Int.toNat (bm (a-(1:Int))))*3)).add 2) [.int .i64] fun f =>
 T.ret (vI f)))
def oB (a:Int):bM Tryz.prog [] Tryz.f78 [vI a]=j6 a:=az
def jY (a:Int):T :=
 ct 78 [vI a] fun b =>
 cond (b==(12:Int))
 dy
 (ct 78 [vI a] fun c =>
 T.ret (.bool (c==(13:Int))))
def oF (a:Int):bM Tryz.prog [] Tryz.f123 [vI a]=jY a:=az
def kY (a:Int) (b:Int):T :=
 cond (b==(1:Int))
 (cond (decide (a>=(-128:Int)))
 (T.ret (.bool (decide (a<=(127:Int)))))
 bC)
 (cond (b==(2:Int))
 (cond (decide (a>=(-32768:Int)))
 (T.ret (.bool (decide (a<=(32767:Int)))))
 bC)
 (cond (b==(4:Int))
 dy
 bC))
def py (a:Int) (b:Int):bM Tryz.prog [] Tryz.f147 [.int .i32 a,vI b]=kY a b:=az
def j9 (a:Int) (b:Int) (c:Int) (d:Int) (e:Int):T :=
 T.new [vI a,vI b,vI c,.int .i32 d,vI e] 65 fun f =>
 T.ah f [.int .i64] fun g =>
 ct 78 [vI g] fun h =>
 cond (h==(0:Int))
 (T.ret (vI 11))
 (T.ah f [.int .i64,.int .i64,.int .i64,.int .i32,.int .i64] fun i j k l m =>
 aX 146 [.agg #[vI i,vI j,vI k,.int .i32 l,vI m]] fun n =>
 cond (!n)
 (T.ret (vI 12))
 (cond (h==(12:Int))
 (T.ah (f.add 4) [.int .i64] fun o =>
 cond (o != (1:Int))
 (T.ah (f.add 4) [.int .i64] fun p =>
 cond (p != (2:Int))
 (T.ah (f.add 4) [.int .i64] fun q =>
 cond (q != (4:Int))
 (T.ret (vI 13))
 (T.ah (f.add 3) [.int .i32] fun r =>
 T.ah (f.add 4) [.int .i64] fun s =>
 aX 147 [.int .i32 r,vI s] fun t =>
 cond (!t)
 (T.ret (vI 13))
 (T.ret (vI 0))))
 (T.ah (f.add 3) [.int .i32] fun q =>
 T.ah (f.add 4) [.int .i64] fun r =>
 aX 147 [.int .i32 q,vI r] fun s =>
 cond (!s)
 (T.ret (vI 13))
 (T.ret (vI 0))))
 (T.ah (f.add 3) [.int .i32] fun p =>
 T.ah (f.add 4) [.int .i64] fun q =>
 aX 147 [.int .i32 p,vI q] fun r =>
 cond (!r)
 (T.ret (vI 13))
 (T.ret (vI 0))))
 (cond (h==(13:Int))
 (T.ah (f.add 4) [.int .i64] fun o =>
 cond (o != (1:Int))
 (T.ah (f.add 4) [.int .i64] fun p =>
 cond (p != (2:Int))
 (T.ah (f.add 4) [.int .i64] fun q =>
 cond (q != (4:Int))
 (T.ret (vI 13))
 (T.ah (f.add 3) [.int .i32] fun r =>
 T.ah (f.add 4) [.int .i64] fun s =>
 aX 147 [.int .i32 r,vI s] fun t =>
 cond (!t)
 (T.ret (vI 13))
 (T.ret (vI 0))))
 (T.ah (f.add 3) [.int .i32] fun q =>
 T.ah (f.add 4) [.int .i64] fun r =>
 aX 147 [.int .i32 q,vI r] fun s =>
 cond (!s)
 (T.ret (vI 13))
 (T.ret (vI 0))))
 (T.ah (f.add 3) [.int .i32] fun p =>
 T.ah (f.add 4) [.int .i64] fun q =>
 aX 147 [.int .i32 p,vI q] fun r =>
 cond (!r)
 (T.ret (vI 13))
 (T.ret (vI 0))))
 (T.ah (f.add 4) [.int .i64] fun o =>
 cond (o != (0:Int))
 (T.ret (vI 13))
 (T.ah (f.add 3) [.int .i32] fun p =>
 cond (h==(8:Int))
 (T.ah (f.add 3) [.int .i32] fun q =>
 cond (decide (q>=(-128:Int)))
 (T.ah (f.add 3) [.int .i32] fun r =>
 cond (!(decide (r<=(127:Int))))
 (T.ret (vI 13))
 (T.ret (vI 0)))
 (T.ret (vI 13)))
 (cond (h==(9:Int))
 (T.ah (f.add 3) [.int .i32] fun q =>
 cond (decide (q>=(0:Int)))
 (T.ah (f.add 3) [.int .i32] fun r =>
 cond (!(decide (r<=(255:Int))))
 (T.ret (vI 13))
 (T.ret (vI 0)))
 (T.ret (vI 13)))
 (cond (h==(11:Int))
 (T.ah (f.add 3) [.int .i32] fun q =>
 cond (decide (q>=(0:Int)))
 (T.ah (f.add 3) [.int .i32] fun r =>
 cond (!(decide (r<=(4095:Int))))
 (T.ret (vI 13))
 (T.ret (vI 0)))
 (T.ret (vI 13)))
 (cond (h==(10:Int))
 (cond (h==(10:Int))
 (T.ret (vI 0))
 (cond (!(p==(0:Int)))
 (T.ret (vI 13))
 (T.ret (vI 0))))
 (cond (h==(7:Int))
 (T.ret (vI 0))
 (cond (!(p==(0:Int)))
 (T.ret (vI 13))
 (T.ret (vI 0))))))))))))
def nY (a:Int) (b:Int) (c:Int) (d:Int) (e:Int):bM Tryz.prog [] Tryz.f124 [.agg #[vI a,vI b,vI c,.int .i32 d,vI e]]=j9 a b c d e:=az
def kK (a:Int):T :=
 ct 78 [vI a] fun b =>
 cond (b==(10:Int))
 dy
 (cond (b==(11:Int))
 dy
 (cond (b==(12:Int))
 dy
 (T.ret (.bool (b==(13:Int))))))
def pT (a:Int):bM Tryz.prog [] Tryz.f125 [vI a]=kK a:=az
def kT (a:Int) (b:Xaa) (c:Int) (d:Int) (e:Int) (f:Int) (g:Int) (h:Xac) (i j:Nat) (k:Int) (l:Int) (m:Bool) (n:Bool) (o:Bool) (p:Bool):T :=
 T.new [vI a,.string b,vI c,vI d,vI e,.int .i32 f,vI g,.slice h i j,aH k,vI l] 71 fun q =>
 cond (!m)
 (cond (!n)
 (cond (!o)
 (cond (!p)
 dy
 (T.ah (q.add 9) [.int .i64] fun r =>
 T.ret (.bool (r==(0:Int)))))
 (T.ah (q.add 7) [.slice 117] fun r s t =>
 cond ((s:Int)==(0:Int))
 (T.ah ((q.add 7).add 1) [.int .u32] fun u =>
 cond (u==(0:Int))
 (cond (!p)
 dy
 (T.ah (q.add 9) [.int .i64] fun v =>
 T.ret (.bool (v==(0:Int)))))
 bC)
 bC))
 (T.ah (q.add 2) [.int .i64,.int .i64,.int .i64,.int .i32,.int .i64] fun r s t u v =>
 eA (Sx.kw (BinOp.eql) 65 (Operand.tmp 23) (Operand.tmp 24) (.agg #[vI r,vI s,vI t,.int .i32 u,vI v]) (.agg #[vI 0,vI 0,vI 0,.int .i32 0,vI 0])) fun w =>
 cond w
 (cond (!o)
 (cond (!p)
 dy
 (T.ah (q.add 9) [.int .i64] fun x =>
 T.ret (.bool (x==(0:Int)))))
 (T.ah (q.add 7) [.slice 117] fun x y z =>
 cond ((y:Int)==(0:Int))
 (T.ah ((q.add 7).add 1) [.int .u32] fun A =>
 cond (A==(0:Int))
 (cond (!p)
 dy
 (T.ah (q.add 9) [.int .i64] fun B =>
 T.ret (.bool (B==(0:Int)))))
 bC)
 bC))
 bC))
 (T.ah (q.add 1) [.string] fun r =>
 cond ((ByteArray.toList r)==[])
 (cond (!n)
 (cond (!o)
 (cond (!p)
 dy
 (T.ah (q.add 9) [.int .i64] fun s =>
 T.ret (.bool (s==(0:Int)))))
 (T.ah (q.add 7) [.slice 117] fun s t u =>
 cond ((t:Int)==(0:Int))
 (T.ah ((q.add 7).add 1) [.int .u32] fun v =>
 cond (v==(0:Int))
 (cond (!p)
 dy
 (T.ah (q.add 9) [.int .i64] fun w =>
 T.ret (.bool (w==(0:Int)))))
 bC)
 bC))
 (T.ah (q.add 2) [.int .i64,.int .i64,.int .i64,.int .i32,.int .i64] fun s t u v w =>
 eA (Sx.kw (BinOp.eql) 65 (Operand.tmp 23) (Operand.tmp 24) (.agg #[vI s,vI t,vI u,.int .i32 v,vI w]) (.agg #[vI 0,vI 0,vI 0,.int .i32 0,vI 0])) fun x =>
 cond x
 (cond (!o)
 (cond (!p)
 dy
 (T.ah (q.add 9) [.int .i64] fun y =>
 T.ret (.bool (y==(0:Int)))))
 (T.ah (q.add 7) [.slice 117] fun y z A =>
 cond ((z:Int)==(0:Int))
 (T.ah ((q.add 7).add 1) [.int .u32] fun B =>
 cond (B==(0:Int))
 (cond (!p)
 dy
 (T.ah (q.add 9) [.int .i64] fun C =>
 T.ret (.bool (C==(0:Int)))))
 bC)
 bC))
 bC))
 bC)
def pQ (a:Int) (b:Xaa) (c:Int) (d:Int) (e:Int) (f:Int) (g:Int) (h:Xac) (i j:Nat) (k:Int) (l:Int) (m:Bool) (n:Bool) (o:Bool) (p:Bool):bM Tryz.prog [] Tryz.f122 [.agg #[vI a,.string b,vI c,vI d,vI e,.int .i32 f,vI g,.slice h i j,.int .u32 k,vI l],.bool m,.bool n,.bool o,.bool p]=kT a b c d e f g h i j k l m n o p:=az
def j8 (a:Int):T :=
 T.loop [bR,aP] [.bool false,vI 1] fun b c =>
 cond (decide (c<=(256:Int)))
 (cond (a==c)
 dy
 (T.again 0 [.bool b,vI (bm ((2:Int)*c))]))
 bC
def oW (a:Int):bM Tryz.prog [] Tryz.f126 [vI a]=j8 a:=az
def lL (a:Xac) (b c:Nat) (d:Xac) (e f:Nat) (g:Xac) (h i:Nat) (j:Xac) (k l:Nat):T :=
 T.new [.slice a b c,.slice d e f,.slice g h i,.slice j k l] 47 fun m =>
 T.ah m [.slice 71] fun n o p =>
 T.ah (m.add 1) [.slice 71] fun q r s =>
 bJ 127 [.slice n o p] false [(false,[.slice 9])] fun t u v =>
 T.bj [((m.add 1),[.slice q r s])] <|
 bJ 127 [.slice q r s] false [(false,[.slice 9])] fun w x y =>
 T.bj [(m,[.slice n o p])] <|
 bt (Builtin.append_ #[45,45] 45 #[.slice t u v,.slice w x y]) fun z A B =>
 T.bj [((m.add 1),[.slice q r s]),(m,[.slice n o p])] <|
 T.loop [dl,aP] [.slice z A B,vI 0] fun C D E F =>
 T.ah (m.add 2) [.slice 100] fun G H I =>
 bz F H
 (T.ah (m.add 2) [.slice 100] fun J K L =>
 bf F K J fun M =>
 T.ah (M.add (aK F 3)) [.string] fun N =>
 bt (Instr.buildSlice 45 1 #[(0,.string N)]) fun O P Q =>
 bt (Builtin.append_ #[45,45] 45 #[.slice C D E,.slice O P Q]) fun R S U =>
 T.again 0 [.slice R S U,bg F])
 (T.ret (.slice C D E))
def qE (a:Xac) (b c:Nat) (d:Xac) (e f:Nat) (g:Xac) (h i:Nat) (j:Xac) (k l:Nat):bM Tryz.prog [] Tryz.f98 [.agg #[.slice a b c,.slice d e f,.slice g h i,.slice j k l]]=lL a b c d e f g h i j k l:=az
def jq (a:Xac) (b c:Nat):T :=
 T.loop [dl,aP] [bq,vI 0] fun d e f g =>
 bz g b
 (bf g b a fun h =>
 T.ah (h.add (aK g 1)) [.string] fun i =>
 aX 57 [.slice d e f,.string i] fun j =>
 cond j
 (T.again 0 [.slice d e f,bg g])
 (bf g b a fun k =>
 T.ah (k.add (aK g 1)) [.string] fun l =>
 bt (Instr.buildSlice 45 1 #[(0,.string l)]) fun m n o =>
 bt (Builtin.append_ #[45,45] 45 #[.slice d e f,.slice m n o]) fun p q r =>
 T.loop [aP] [vI (e:Int)] fun s =>
 cond (decide (s>(0:Int)))
 (T.need (((0:Int)<=(bm (s-(1:Int))))/\((bm (s-(1:Int)))<(q:Int))) <|
 T.bi p fun t =>
 T.ah (t.add ((Int.toNat (bm (s-(1:Int))))*1)) [.string] fun u =>
 bf g b a fun v =>
 T.ah (v.add (aK g 1)) [.string] fun w =>
 cond (!((Op.bytesLess (ByteArray.toList u) (ByteArray.toList w)) || ((ByteArray.toList u)==(ByteArray.toList w))))
 (T.need (((0:Int)<=(bm (s-(1:Int))))/\((bm (s-(1:Int)))<(q:Int))) <|
 T.bi p fun x =>
 T.ah (x.add ((Int.toNat (bm (s-(1:Int))))*1)) [.string] fun y =>
 bf s q p fun z =>
 T.aC (z.add (aK s 1)) [.string y] <|
 T.again 1 [vI (bm (s-(1:Int)))])
 (bf g b a fun x =>
 T.ah (x.add (aK g 1)) [.string] fun y =>
 bf s q p fun z =>
 T.aC (z.add (aK s 1)) [.string y] <|
 T.again 0 [.slice p q r,bg g]))
 (bf g b a fun t =>
 T.ah (t.add (aK g 1)) [.string] fun u =>
 bf s q p fun v =>
 T.aC (v.add (aK s 1)) [.string u] <|
 T.again 0 [.slice p q r,bg g])))
 (T.ret (.slice d e f))
def nM (a:Xac) (b c:Nat):bM Tryz.prog [] Tryz.f58 [.slice a b c]=jq a b c:=az
def gZ (a:Xac) (b c:Nat) (d:Xaa):T :=
 T.loop [bR,aP] [.bool false,vI 0] fun e f =>
 bz f b
 (bf f b a fun g =>
 T.ah (g.add (aK f 1)) [.string] fun h =>
 cond ((ByteArray.toList h)==(ByteArray.toList d))
 dy
 (T.again 0 [.bool e,bg f]))
 bC
def jm (a:Xac) (b c:Nat) (d:Xaa):bM Tryz.prog [] Tryz.f57 [.slice a b c,.string d]=gZ a b c d:=az
def jr (a:Xac) (b c:Nat):T :=
 T.loop [dl,aP] [bq,vI 0] fun d e f g =>
 bz g b
 (bf g b a fun h =>
 T.ah (h.add (aK g 10)) [.int .i64] fun i =>
 cond (i==(1:Int))
 (bf g b a fun j =>
 T.ah ((j.add (aK g 10)).add 1) [.string] fun k =>
 bt (Instr.buildSlice 45 1 #[(0,.string k)]) fun l m n =>
 bt (Builtin.append_ #[45,45] 45 #[.slice d e f,.slice l m n]) fun o p q =>
 T.again 0 [.slice o p q,bg g])
 (T.again 0 [.slice d e f,bg g]))
 (T.ret (.slice d e f))
def nB (a:Xac) (b c:Nat):bM Tryz.prog [] Tryz.f127 [.slice a b c]=jr a b c:=az
def jU (a:Xac) (b c:Nat) (d:Xac) (e f:Nat) (g:Xac) (h i:Nat) (j:Xac) (k l:Nat):T :=
 T.new [.slice a b c,.slice d e f,.slice g h i,.slice j k l] 47 fun m =>
 T.ah m [.slice 71] fun n o p =>
 T.ah (m.add 1) [.slice 71] fun q r s =>
 cond (decide ((bm ((o:Int)+(r:Int)))>(8192:Int)))
 (T.ret (vI 4))
 (T.ah (m.add 2) [.slice 100] fun t u v =>
 cond (decide ((u:Int)>(8192:Int)))
 (T.ret (vI 4))
 (T.loop [aP,aP] [vI 0,vI 0] fun w x =>
 T.ah m [.slice 71] fun y z A =>
 bz x z
 (T.ah m [.slice 71] fun B C D =>
 bf x C B fun E =>
 T.ah (E.add (aK x 10)) (yI 117) fun F G H I J K L M N O P Q =>
 ct 96 [.agg #[vI F,.string G,vI H,vI I,vI J,.int .i32 K,vI L,.slice M N O,aH P,vI Q],vI 0] fun R =>
 cond (R != (0:Int))
 (T.ret (vI 31))
 (T.again 0 [vI w,bg x]))
 (T.loop [aP,aP] [vI w,vI 0] fun B C =>
 T.ah (m.add 1) [.slice 71] fun D E F =>
 bz C E
 (T.ah (m.add 1) [.slice 71] fun G H I =>
 bf C H G fun J =>
 T.ah (J.add (aK C 10)) (yI 117) fun K L M N O P Q R S U V W =>
 ct 96 [.agg #[vI K,.string L,vI M,vI N,vI O,.int .i32 P,vI Q,.slice R S U,aH V,vI W],vI 1] fun X =>
 cond (X != (0:Int))
 (T.ret (vI 31))
 (T.again 1 [vI B,bg C]))
 (T.loop [aP,aP] [vI B,vI 0] fun G H =>
 T.ah (m.add 2) [.slice 100] fun I J K =>
 bz H J
 (T.ah (m.add 2) [.slice 100] fun L M N =>
 bf H M L fun O =>
 T.ah (O.add (aK H 3)) [.string] fun P =>
 aX 82 [.string P] fun Q =>
 cond (!Q)
 (T.ret (vI 31))
 (T.ah (m.add 2) [.slice 100] fun R S U =>
 bf H S R fun V =>
 T.ah ((V.add (aK H 3)).add 1) (yL 117) fun W X Y Z =>
 aX 97 [.agg #[.slice W X Y,aH Z]] fun a0 =>
 cond (!a0)
 (T.ret (vI 31))
 (T.again 2 [vI G,bg H])))
 (T.ah m (yU 71 100) fun L M N O P Q R S U V W X =>
 bJ 98 [.agg #[.slice L M N,.slice O P Q,.slice R S U,.slice V W X]] false [(false,[.slice 9])] fun Y Z a0 =>
 bJ 58 [.slice Y Z a0] false [(false,[.slice 9])] fun a1 a2 a3 =>
 cond ((a2:Int) != (Z:Int))
 (T.ret (vI 31))
 (T.loop [aP,aP] [vI G,vI 0] fun a4 a5 =>
 T.ah (m.add 3) [.slice 9] fun a6 a7 a8 =>
 bz a5 a7
 (cond (decide (a5>(0:Int)))
 (T.ah (m.add 3) [.slice 9] fun a9 b0 b1 =>
 bf a5 b0 a9 fun b2 =>
 T.ah (b2.add (aK a5 1)) [.string] fun b3 =>
 T.ah (m.add 3) [.slice 9] fun b4 b5 b6 =>
 T.need (((0:Int)<=(bm (a5-(1:Int))))/\((bm (a5-(1:Int)))<(b5:Int))) <|
 T.bi b4 fun b7 =>
 T.ah (b7.add ((Int.toNat (bm (a5-(1:Int))))*1)) [.string] fun b8 =>
 cond ((Op.bytesLess (ByteArray.toList b3) (ByteArray.toList b8)) || ((ByteArray.toList b3)==(ByteArray.toList b8)))
 (T.ret (vI 31))
 (T.ah (m.add 3) [.slice 9] fun b9 c0 c1 =>
 bf a5 c0 b9 fun c2 =>
 T.ah (c2.add (aK a5 1)) [.string] fun c3 =>
 aX 57 [.slice Y Z a0,.string c3] fun c4 =>
 T.bj [((m.add 3),[.slice b9 c0 c1]),((b7.add ((Int.toNat (bm (a5-(1:Int))))*1)),[.string b8]),((m.add 3),[.slice b4 b5 b6]),((b2.add (aK a5 1)),[.string b3]),((m.add 3),[.slice a9 b0 b1])] <|
 cond (!c4)
 (T.ret (vI 31))
 (T.again 3 [vI a4,bg a5])))
 (T.ah (m.add 3) [.slice 9] fun a9 b0 b1 =>
 bf a5 b0 a9 fun b2 =>
 T.ah (b2.add (aK a5 1)) [.string] fun b3 =>
 aX 57 [.slice Y Z a0,.string b3] fun b4 =>
 T.bj [((m.add 3),[.slice a9 b0 b1])] <|
 cond (!b4)
 (T.ret (vI 31))
 (T.again 3 [vI a4,bg a5])))
 (T.ret (vI 0))))))))
def oi (a:Xac) (b c:Nat) (d:Xac) (e f:Nat) (g:Xac) (h i:Nat) (j:Xac) (k l:Nat):bM Tryz.prog [] Tryz.f71 [.agg #[.slice a b c,.slice d e f,.slice g h i,.slice j k l]]=jU a b c d e f g h i j k l:=az
def uD :T :=
 T.ek Tryz.prog (Instr.buildSlice 163 43 #[(0,.agg #[.string ⟨#[110,111,112]⟩,.int .u8 0,vI 1]),(1,.agg #[.string ⟨#[104,97,108,116]⟩,.int .u8 1,vI 1]),(2,.agg #[.string ⟨#[114,101,116]⟩,.int .u8 2,vI 1]),(3,.agg #[.string ⟨#[112,114,105,110,116]⟩,.int .u8 3,vI 2]),(4,.agg #[.string ⟨#[105,110]⟩,.int .u8 4,vI 2]),(5,.agg #[.string ⟨#[112,117,115,104]⟩,.int .u8 5,vI 2]),(6,.agg #[.string ⟨#[112,111,112]⟩,.int .u8 6,vI 2]),(7,.agg #[.string ⟨#[106,114]⟩,.int .u8 7,vI 2]),(8,.agg #[.string ⟨#[110,101,103]⟩,.int .u8 8,vI 2]),(9,.agg #[.string ⟨#[110,111,116]⟩,.int .u8 9,vI 2]),(10,.agg #[.string ⟨#[122,116,117,114,110]⟩,.int .u8 10,vI 3]),(11,.agg #[.string ⟨#[122,99,111,110,106]⟩,.int .u8 11,vI 3]),(12,.agg #[.string ⟨#[109,111,118]⟩,.int .u8 16,vI 4]),(13,.agg #[.string ⟨#[97,100,100]⟩,.int .u8 17,vI 4]),(14,.agg #[.string ⟨#[115,117,98]⟩,.int .u8 18,vI 4]),(15,.agg #[.string ⟨#[109,117,108]⟩,.int .u8 19,vI 4]),(16,.agg #[.string ⟨#[100,105,118]⟩,.int .u8 20,vI 4]),(17,.agg #[.string ⟨#[97,110,100]⟩,.int .u8 21,vI 4]),(18,.agg #[.string ⟨#[111,114]⟩,.int .u8 22,vI 4]),(19,.agg #[.string ⟨#[120,111,114]⟩,.int .u8 23,vI 4]),(20,.agg #[.string ⟨#[115,104,108]⟩,.int .u8 24,vI 4]),(21,.agg #[.string ⟨#[115,104,114]⟩,.int .u8 25,vI 4]),(22,.agg #[.string ⟨#[108,116]⟩,.int .u8 26,vI 4]),(23,.agg #[.string ⟨#[101,113]⟩,.int .u8 27,vI 4]),(24,.agg #[.string ⟨#[108,100,98]⟩,.int .u8 28,vI 4]),(25,.agg #[.string ⟨#[108,100,119]⟩,.int .u8 29,vI 4]),(26,.agg #[.string ⟨#[108,100,109]⟩,.int .u8 30,vI 4]),(27,.agg #[.string ⟨#[115,116,109]⟩,.int .u8 31,vI 4]),(28,.agg #[.string ⟨#[122,109,111,118]⟩,.int .u8 32,vI 5]),(29,.agg #[.string ⟨#[122,97,100,100]⟩,.int .u8 33,vI 5]),(30,.agg #[.string ⟨#[122,115,117,98]⟩,.int .u8 34,vI 5]),(31,.agg #[.string ⟨#[122,109,117,108]⟩,.int .u8 35,vI 5]),(32,.agg #[.string ⟨#[122,114,101]⟩,.int .u8 36,vI 6]),(33,.agg #[.string ⟨#[122,105,109]⟩,.int .u8 37,vI 6]),(34,.agg #[.string ⟨#[122,115,101,116]⟩,.int .u8 38,vI 7]),(35,.agg #[.string ⟨#[108,105,115]⟩,.int .u8 48,vI 8]),(36,.agg #[.string ⟨#[116,114,97,112]⟩,.int .u8 49,vI 9]),(37,.agg #[.string ⟨#[108,105]⟩,.int .u8 50,vI 10]),(38,.agg #[.string ⟨#[108,100,112]⟩,.int .u8 51,vI 11]),(39,.agg #[.string ⟨#[106,109,112]⟩,.int .u8 64,vI 12]),(40,.agg #[.string ⟨#[99,97,108,108]⟩,.int .u8 67,vI 12]),(41,.agg #[.string ⟨#[106,122]⟩,.int .u8 70,vI 13]),(42,.agg #[.string ⟨#[106,110,122]⟩,.int .u8 73,vI 13])]) false [(false,[.slice 0])] fun a b c =>
 T.ret (.slice a b c)
def qH :bM Tryz.prog [] Tryz.f79 []=uD :=az
def gz (a:Int) (b:Int) (c:Int) (d:Int) (e:Int):T :=
 T.new [vI a,vI b,vI c,.int .i32 d,vI e] 65 fun f =>
 T.ah f [.int .i64] fun g =>
 ct 78 [vI g] fun h =>
 T.join [aP,aP]
 (cond (h==(2:Int))
 (cond (h==(2:Int))
 (T.again 0 [vI 8,vI 0])
 (cond (h==(3:Int))
 (T.again 0 [vI 4,vI 0])
 (cond (h==(4:Int))
 (T.again 0 [vI 8,vI 8])
 (cond (h==(5:Int))
 (T.again 0 [vI 4,vI 4])
 (cond (h==(6:Int))
 (T.again 0 [vI 8,vI 4])
 (cond (h==(7:Int))
 (T.again 0 [vI 4,vI 8])
 (T.again 0 [vI 0,vI 0])))))))
 (cond (h==(8:Int))
 (cond (h==(8:Int))
 (T.again 0 [vI 8,vI 0])
 (cond (h==(3:Int))
 (T.again 0 [vI 4,vI 0])
 (cond (h==(4:Int))
 (T.again 0 [vI 8,vI 8])
 (cond (h==(5:Int))
 (T.again 0 [vI 4,vI 4])
 (cond (h==(6:Int))
 (T.again 0 [vI 8,vI 4])
 (cond (h==(7:Int))
 (T.again 0 [vI 4,vI 8])
 (T.again 0 [vI 0,vI 0])))))))
 (cond (h==(10:Int))
 (cond (h==(10:Int))
 (T.again 0 [vI 8,vI 0])
 (cond (h==(3:Int))
 (T.again 0 [vI 4,vI 0])
 (cond (h==(4:Int))
 (T.again 0 [vI 8,vI 8])
 (cond (h==(5:Int))
 (T.again 0 [vI 4,vI 4])
 (cond (h==(6:Int))
 (T.again 0 [vI 8,vI 4])
 (cond (h==(7:Int))
 (T.again 0 [vI 4,vI 8])
 (T.again 0 [vI 0,vI 0])))))))
 (cond (h==(11:Int))
 (cond (h==(11:Int))
 (T.again 0 [vI 8,vI 0])
 (cond (h==(3:Int))
 (T.again 0 [vI 4,vI 0])
 (cond (h==(4:Int))
 (T.again 0 [vI 8,vI 8])
 (cond (h==(5:Int))
 (T.again 0 [vI 4,vI 4])
 (cond (h==(6:Int))
 (T.again 0 [vI 8,vI 4])
 (cond (h==(7:Int))
 (T.again 0 [vI 4,vI 8])
 (T.again 0 [vI 0,vI 0])))))))
 (cond (h==(13:Int))
 (T.again 0 [vI 8,vI 0])
 (cond (h==(3:Int))
 (T.again 0 [vI 4,vI 0])
 (cond (h==(4:Int))
 (T.again 0 [vI 8,vI 8])
 (cond (h==(5:Int))
 (T.again 0 [vI 4,vI 4])
 (cond (h==(6:Int))
 (T.again 0 [vI 8,vI 4])
 (cond (h==(7:Int))
 (T.again 0 [vI 4,vI 8])
 (T.again 0 [vI 0,vI 0]))))))))))) fun i j =>
 T.ah (f.add 1) [.int .i64] fun k =>
 cond (decide (k<(0:Int)))
 bC
 (T.ah (f.add 2) [.int .i64] fun l =>
 cond (decide (l<(0:Int)))
 bC
 (T.ah (f.add 1) [.int .i64] fun m =>
 cond (decide (m>=i))
 (cond (decide (i>(0:Int)))
 bC
 (T.ah (f.add 1) [.int .i64] fun n =>
 cond (n != (0:Int))
 bC
 (T.ah (f.add 2) [.int .i64] fun o =>
 cond (decide (o>=j))
 (cond (decide (j>(0:Int)))
 bC
 (T.ah (f.add 2) [.int .i64] fun p =>
 cond (p != (0:Int))
 bC
 (cond (h != (7:Int))
 dy
 (T.ah (f.add 3) [.int .i32] fun q =>
 cond (decide (q>=(0:Int)))
 (T.ah (f.add 3) [.int .i32] fun r =>
 T.ret (.bool (decide (r<=(7:Int)))))
 bC))))
 (cond (h != (7:Int))
 dy
 (T.ah (f.add 3) [.int .i32] fun p =>
 cond (decide (p>=(0:Int)))
 (T.ah (f.add 3) [.int .i32] fun q =>
 T.ret (.bool (decide (q<=(7:Int)))))
 bC)))))
 (T.ah (f.add 2) [.int .i64] fun n =>
 cond (decide (n>=j))
 (cond (decide (j>(0:Int)))
 bC
 (T.ah (f.add 2) [.int .i64] fun o =>
 cond (o != (0:Int))
 bC
 (cond (h != (7:Int))
 dy
 (T.ah (f.add 3) [.int .i32] fun p =>
 cond (decide (p>=(0:Int)))
 (T.ah (f.add 3) [.int .i32] fun q =>
 T.ret (.bool (decide (q<=(7:Int)))))
 bC))))
 (cond (h != (7:Int))
 dy
 (T.ah (f.add 3) [.int .i32] fun o =>
 cond (decide (o>=(0:Int)))
 (T.ah (f.add 3) [.int .i32] fun p =>
 T.ret (.bool (decide (p<=(7:Int)))))
 bC)))))
def lj (a:Int) (b:Int) (c:Int) (d:Int) (e:Int):bM Tryz.prog [1025] Tryz.f146 [.agg #[vI a,vI b,vI c,.int .i32 d,vI e]]=gz a b c d e:=az
def ij (a:Int) (b:Xaa) (c:Int) (d:Int) (e:Int) (f:Int) (g:Int) (h:Xac) (i:Nat) (j:Nat) (k:Int) (l:Int):T :=
 T.new [vI a,.string b,vI c,vI d,vI e,.int .i32 f,vI g,.slice h i j,aH k,vI l] 71 fun m =>
 T.join [bR]
 (T.ah m [.int .i64] fun n =>
 cond (n==(1:Int))
 (T.ah (m.add 1) [.string] fun o =>
 aX 82 [.string o] fun p =>
 cond p
 (T.ah m (yI 117) fun q r s t u v w x y z A B =>
 aX 122 [.agg #[vI q,.string r,vI s,vI t,vI u,.int .i32 v,vI w,.slice x y z,aH A,vI B],.bool false,.bool true,.bool true,.bool true] fun C =>
 T.again 0 [.bool C])
 (T.again 0 [.bool false]))
 (cond (n==(2:Int))
 (T.ah (m.add 2) [.int .i64,.int .i64,.int .i64,.int .i32,.int .i64] fun o p q r s =>
 T.new [vI 0,vI 0,vI 0,.int .i32 0,vI 0] 65 fun t =>
 T.aC t [vI o,vI p,vI q,.int .i32 r,vI s] <|
 T.ah (t.add 4) [.int .i64] fun u =>
 T.join []
 (T.ah t [.int .i64] fun v =>
 aX 123 [vI v] fun w =>
 cond w
 (T.aC (t.add 4) [vI 1] <|
 T.again 1 [])
 (T.again 1 [])) <| T.join [bR]
 (cond (u==(0:Int))
 (T.ah t [.int .i64,.int .i64,.int .i64,.int .i32,.int .i64] fun v w x y z =>
 ct 124 [.agg #[vI v,vI w,vI x,.int .i32 y,vI z]] fun A =>
 cond (A==(0:Int))
 (T.ah m (yI 117) fun B C D E F G H I J K L M =>
 aX 122 [.agg #[vI B,.string C,vI D,vI E,vI F,.int .i32 G,vI H,.slice I J K,aH L,vI M],.bool true,.bool false,.bool false,.bool true] fun N =>
 T.again 1 [.bool N])
 (T.again 1 [.bool false]))
 (T.again 1 [.bool false])) fun v =>
 T.ah t [.int .i64] fun w =>
 aX 125 [vI w] fun x =>
 cond x
 (cond v
 (T.ah (t.add 3) [.int .i32] fun y =>
 cond (y==(0:Int))
 (T.ah (m.add 7) (yL 117) fun z A B C =>
 aX 97 [.agg #[.slice z A B,aH C]] fun D =>
 T.again 0 [.bool D])
 (T.again 0 [.bool false]))
 (T.again 0 [.bool false]))
 (cond v
 (T.ah m (yI 117) fun y z A B C D E F G H I J =>
 aX 122 [.agg #[vI y,.string z,vI A,vI B,vI C,.int .i32 D,vI E,.slice F G H,aH I,vI J],.bool false,.bool false,.bool true,.bool false] fun K =>
 T.again 0 [.bool K])
 (T.again 0 [.bool false])))
 (cond (n==(3:Int))
 (T.ah (m.add 9) [.int .i64] fun o =>
 aX 126 [vI o] fun p =>
 cond p
 (T.ah m (yI 117) fun q r s t u v w x y z A B =>
 aX 122 [.agg #[vI q,.string r,vI s,vI t,vI u,.int .i32 v,vI w,.slice x y z,aH A,vI B],.bool true,.bool true,.bool true,.bool false] fun C =>
 T.again 0 [.bool C])
 (T.again 0 [.bool false]))
 (cond (n==(4:Int))
 (T.ah m (yI 117) fun o p q r s t u v w x y z =>
 aX 122 [.agg #[vI o,.string p,vI q,vI r,vI s,.int .i32 t,vI u,.slice v w x,aH y,vI z],.bool true,.bool true,.bool true,.bool true] fun A =>
 T.again 0 [.bool A])
 (cond (n==(5:Int))
 (T.again 0 [.bool false])
 (cond (n==(6:Int))
 (T.again 0 [.bool false])
 (cond (n==(7:Int))
 (T.again 0 [.bool false])
 (T.again 0 [.bool false])))))))) fun n =>
 cond (!n)
 (T.ret (vI 31))
 (T.ret (vI 0))
def mC (a:Int) (b:Xaa) (c:Int) (d:Int) (e:Int) (f:Int) (g:Int) (h:Xac) (i:Nat) (j:Nat) (k:Int) (l:Int):bM Tryz.prog [1012,1013,1026] Tryz.f96 [.agg #[vI a,.string b,vI c,vI d,vI e,.int .i32 f,vI g,.slice h i j,.int .u32 k,vI l],vI 0]=ij a b c d e f g h i j k l:=az
def ik (a:Int) (b:Xaa) (c:Int) (d:Int) (e:Int) (f:Int) (g:Int) (h:Xac) (i:Nat) (j:Nat) (k:Int) (l:Int):T :=
 T.new [vI a,.string b,vI c,vI d,vI e,.int .i32 f,vI g,.slice h i j,aH k,vI l] 71 fun m =>
 T.join [bR]
 (T.ah m [.int .i64] fun n =>
 cond (n==(1:Int))
 (T.ah (m.add 1) [.string] fun o =>
 aX 82 [.string o] fun p =>
 cond p
 (T.ah m (yI 117) fun q r s t u v w x y z A B =>
 aX 122 [.agg #[vI q,.string r,vI s,vI t,vI u,.int .i32 v,vI w,.slice x y z,aH A,vI B],.bool false,.bool true,.bool true,.bool true] fun C =>
 T.again 0 [.bool C])
 (T.again 0 [.bool false]))
 (cond (n==(2:Int))
 (T.ah (m.add 2) [.int .i64,.int .i64,.int .i64,.int .i32,.int .i64] fun o p q r s =>
 T.new [vI 0,vI 0,vI 0,.int .i32 0,vI 0] 65 fun t =>
 T.aC t [vI o,vI p,vI q,.int .i32 r,vI s] <|
 T.ah (t.add 4) [.int .i64] fun u =>
 T.join []
 (T.ah t [.int .i64] fun v =>
 aX 123 [vI v] fun w =>
 cond w
 (T.aC (t.add 4) [vI 1] <|
 T.again 1 [])
 (T.again 1 [])) <| T.join [bR]
 (T.again 1 [.bool false]) fun v =>
 T.ah t [.int .i64] fun w =>
 aX 125 [vI w] fun x =>
 cond x
 (cond v
 (T.ah (t.add 3) [.int .i32] fun y =>
 cond (y==(0:Int))
 (T.ah (m.add 7) (yL 117) fun z A B C =>
 aX 97 [.agg #[.slice z A B,aH C]] fun D =>
 T.again 0 [.bool D])
 (T.again 0 [.bool false]))
 (T.again 0 [.bool false]))
 (cond v
 (T.ah m (yI 117) fun y z A B C D E F G H I J =>
 aX 122 [.agg #[vI y,.string z,vI A,vI B,vI C,.int .i32 D,vI E,.slice F G H,aH I,vI J],.bool false,.bool false,.bool true,.bool false] fun K =>
 T.again 0 [.bool K])
 (T.again 0 [.bool false])))
 (cond (n==(3:Int))
 (T.ah (m.add 9) [.int .i64] fun o =>
 aX 126 [vI o] fun p =>
 cond p
 (T.ah m (yI 117) fun q r s t u v w x y z A B =>
 aX 122 [.agg #[vI q,.string r,vI s,vI t,vI u,.int .i32 v,vI w,.slice x y z,aH A,vI B],.bool true,.bool true,.bool true,.bool false] fun C =>
 T.again 0 [.bool C])
 (T.again 0 [.bool false]))
 (cond (n==(4:Int))
 (T.again 0 [.bool false])
 (cond (n==(5:Int))
 (T.ah (m.add 9) [.int .i64] fun o =>
 cond (decide (o>=(-128:Int)))
 (T.ah (m.add 9) [.int .i64] fun p =>
 cond (decide (p<=(255:Int)))
 (T.ah m (yI 117) fun q r s t u v w x y z A B =>
 aX 122 [.agg #[vI q,.string r,vI s,vI t,vI u,.int .i32 v,vI w,.slice x y z,aH A,vI B],.bool true,.bool true,.bool true,.bool false] fun C =>
 T.again 0 [.bool C])
 (T.again 0 [.bool false]))
 (T.again 0 [.bool false]))
 (cond (n==(6:Int))
 (T.ah (m.add 7) (yL 117) fun o p q r =>
 aX 97 [.agg #[.slice o p q,aH r]] fun s =>
 cond s
 (T.ah m (yI 117) fun t u v w x y z A B C D E =>
 aX 122 [.agg #[vI t,.string u,vI v,vI w,vI x,.int .i32 y,vI z,.slice A B C,aH D,vI E],.bool true,.bool true,.bool false,.bool true] fun F =>
 T.again 0 [.bool F])
 (T.again 0 [.bool false]))
 (cond (n==(7:Int))
 (T.ah (m.add 9) [.int .i64] fun o =>
 cond (decide (o>=(0:Int)))
 (T.ah (m.add 9) [.int .i64] fun p =>
 cond (decide (p<=(1048576:Int)))
 (T.ah m (yI 117) fun q r s t u v w x y z A B =>
 aX 122 [.agg #[vI q,.string r,vI s,vI t,vI u,.int .i32 v,vI w,.slice x y z,aH A,vI B],.bool true,.bool true,.bool true,.bool false] fun C =>
 T.again 0 [.bool C])
 (T.again 0 [.bool false]))
 (T.again 0 [.bool false]))
 (T.again 0 [.bool false])))))))) fun n =>
 cond (!n)
 (T.ret (vI 31))
 (T.ret (vI 0))
def lI (a:Int) (b:Xaa) (c:Int) (d:Int) (e:Int) (f:Int) (g:Int) (h:Xac) (i:Nat) (j:Nat) (k:Int) (l:Int):bM Tryz.prog [1012,1013,1026] Tryz.f96 [.agg #[vI a,.string b,vI c,vI d,vI e,.int .i32 f,vI g,.slice h i j,.int .u32 k,vI l],vI 1]=ik a b c d e f g h i j k l:=az
end Go.Sx
