/- Trees of functions. No condition. -/
import Derived.Test.YtlpcncdglfjnoaaGreatDoorSxF
import Derived.Test.YtlpcncdglfjnoaaGreatDoorProg
import Derived.KernelRfl
set_option linter.all false
set_option maxRecDepth 100000
set_option maxHeartbeats 4000000
namespace Go.Sx
open Go.Proofs
def jA (a:Int):T :=
 bq 117 [] false [(false,[.slice 188])] fun b c d =>
 cond (decide (a<1))
 (T.ret (vI 0))
 (cond (decide (a>(c:Int)))
 (T.ret (vI 0))
 (T.need ((0<=(bf (a-1)))/\((bf (a-1))<(c:Int))) <|
 T.bd b fun e =>
 T.ae ((e.add ((Int.toNat (bf (a-1)))*3)).add 2) [.int .i64] fun f =>
 T.ret (vI f)))
def nv (a:Int):bQ YC [] Tryz.f96 [vI a]=jA a:=aw
def jw (a:Int):T :=
 dh 96 [vI a] fun b =>
 cond (b==12)
 dI
 (dh 96 [vI a] fun c =>
 T.ret (.bool (c==13)))
def nB (a:Int):bQ YC [] Tryz.f71 [vI a]=jw a:=aw
def j5 (a b:Int):T :=
 cond (b==1)
 (cond (decide (a>=(-128)))
 (T.ret (.bool (decide (a<=127))))
 bz)
 (cond (b==2)
 (cond (decide (a>=(-32768)))
 (T.ret (.bool (decide (a<=32767))))
 bz)
 (cond (b==4)
 dI
 bz))
def ot (a b:Int):bQ YC [] Tryz.f98 [.int .i32 a,vI b]=j5 a b:=aw
def jC (a b c d e:Int):T :=
 T.new [vI a,vI b,vI c,.int .i32 d,vI e] 62 fun f =>
 T.ae f [.int .i64] fun g =>
 dh 96 [vI g] fun h =>
 cond (h==0)
 (T.ret (vI 11))
 (T.ae f [.int .i64,.int .i64,.int .i64,.int .i32,.int .i64] fun i j k l m =>
 aP 97 [.agg #[vI i,vI j,vI k,.int .i32 l,vI m]] fun n =>
 cond (!n)
 (T.ret (vI 12))
 (cond (h==12)
 (T.ae (f.add 4) [.int .i64] fun o =>
 cond (o != 1)
 (T.ae (f.add 4) [.int .i64] fun p =>
 cond (p != 2)
 (T.ae (f.add 4) [.int .i64] fun q =>
 cond (q != 4)
 (T.ret (vI 13))
 (T.ae (f.add 3) [.int .i32] fun r =>
 T.ae (f.add 4) [.int .i64] fun s =>
 aP 98 [.int .i32 r,vI s] fun t =>
 cond (!t)
 (T.ret (vI 13))
 (T.ret (vI 0))))
 (T.ae (f.add 3) [.int .i32] fun q =>
 T.ae (f.add 4) [.int .i64] fun r =>
 aP 98 [.int .i32 q,vI r] fun s =>
 cond (!s)
 (T.ret (vI 13))
 (T.ret (vI 0))))
 (T.ae (f.add 3) [.int .i32] fun p =>
 T.ae (f.add 4) [.int .i64] fun q =>
 aP 98 [.int .i32 p,vI q] fun r =>
 cond (!r)
 (T.ret (vI 13))
 (T.ret (vI 0))))
 (cond (h==13)
 (T.ae (f.add 4) [.int .i64] fun o =>
 cond (o != 1)
 (T.ae (f.add 4) [.int .i64] fun p =>
 cond (p != 2)
 (T.ae (f.add 4) [.int .i64] fun q =>
 cond (q != 4)
 (T.ret (vI 13))
 (T.ae (f.add 3) [.int .i32] fun r =>
 T.ae (f.add 4) [.int .i64] fun s =>
 aP 98 [.int .i32 r,vI s] fun t =>
 cond (!t)
 (T.ret (vI 13))
 (T.ret (vI 0))))
 (T.ae (f.add 3) [.int .i32] fun q =>
 T.ae (f.add 4) [.int .i64] fun r =>
 aP 98 [.int .i32 q,vI r] fun s =>
 cond (!s)
 (T.ret (vI 13))
 (T.ret (vI 0))))
 (T.ae (f.add 3) [.int .i32] fun p =>
 T.ae (f.add 4) [.int .i64] fun q =>
 aP 98 [.int .i32 p,vI q] fun r =>
 cond (!r)
 (T.ret (vI 13))
 (T.ret (vI 0))))
 (T.ae (f.add 4) [.int .i64] fun o =>
 cond (o != 0)
 (T.ret (vI 13))
 (T.ae (f.add 3) [.int .i32] fun p =>
 cond (h==8)
 (T.ae (f.add 3) [.int .i32] fun q =>
 cond (decide (q>=(-128)))
 (T.ae (f.add 3) [.int .i32] fun r =>
 cond (!(decide (r<=127)))
 (T.ret (vI 13))
 (T.ret (vI 0)))
 (T.ret (vI 13)))
 (cond (h==9)
 (T.ae (f.add 3) [.int .i32] fun q =>
 cond (decide (q>=0))
 (T.ae (f.add 3) [.int .i32] fun r =>
 cond (!(decide (r<=255)))
 (T.ret (vI 13))
 (T.ret (vI 0)))
 (T.ret (vI 13)))
 (cond (h==11)
 (T.ae (f.add 3) [.int .i32] fun q =>
 cond (decide (q>=0))
 (T.ae (f.add 3) [.int .i32] fun r =>
 cond (!(decide (r<=4095)))
 (T.ret (vI 13))
 (T.ret (vI 0)))
 (T.ret (vI 13)))
 (cond (h==10)
 (cond (h==10)
 (T.ret (vI 0))
 (cond (!(p==0))
 (T.ret (vI 13))
 (T.ret (vI 0))))
 (cond (h==7)
 (T.ret (vI 0))
 (cond (!(p==0))
 (T.ret (vI 13))
 (T.ret (vI 0))))))))))))
def mR (a b c d e:Int):bQ YC [] Tryz.f72 [.agg #[vI a,vI b,vI c,.int .i32 d,vI e]]=jC a b c d e:=aw
def jU (a:Int):T :=
 dh 96 [vI a] fun b =>
 cond (b==10)
 dI
 (cond (b==11)
 dI
 (cond (b==12)
 dI
 (T.ret (.bool (b==13)))))
def oP (a:Int):bQ YC [] Tryz.f73 [vI a]=jU a:=aw
def j0 (a:Int) (b:XA) (c d e f g:Int) (h:XC) (i j:Nat) (k l:Int) (m n o p:Bool):T :=
 T.new [vI a,.string b,vI c,vI d,vI e,.int .i32 f,vI g,.slice h i j,ar k,vI l] 64 fun q =>
 cond (!m)
 (cond (!n)
 (cond (!o)
 (cond (!p)
 dI
 (T.ae (q.add 9) [.int .i64] fun r =>
 T.ret (.bool (r==0))))
 (T.ae (q.add 7) [.slice 66] fun r s t =>
 cond ((s:Int)==0)
 (T.ae ((q.add 7).add 1) [.int .u32] fun u =>
 cond (u==0)
 (cond (!p)
 dI
 (T.ae (q.add 9) [.int .i64] fun v =>
 T.ret (.bool (v==0))))
 bz)
 bz))
 (T.ae (q.add 2) [.int .i64,.int .i64,.int .i64,.int .i32,.int .i64] fun r s t u v =>
 eh (Sx.j6 (BinOp.eql) 62 (Operand.tmp 23) (Operand.tmp 24) (.agg #[vI r,vI s,vI t,.int .i32 u,vI v]) (.agg #[vI 0,vI 0,vI 0,.int .i32 0,vI 0])) fun w =>
 cond w
 (cond (!o)
 (cond (!p)
 dI
 (T.ae (q.add 9) [.int .i64] fun x =>
 T.ret (.bool (x==0))))
 (T.ae (q.add 7) [.slice 66] fun x y z =>
 cond ((y:Int)==0)
 (T.ae ((q.add 7).add 1) [.int .u32] fun A =>
 cond (A==0)
 (cond (!p)
 dI
 (T.ae (q.add 9) [.int .i64] fun B =>
 T.ret (.bool (B==0))))
 bz)
 bz))
 bz))
 (T.ae (q.add 1) [.string] fun r =>
 cond ((ByteArray.toList r)==[])
 (cond (!n)
 (cond (!o)
 (cond (!p)
 dI
 (T.ae (q.add 9) [.int .i64] fun s =>
 T.ret (.bool (s==0))))
 (T.ae (q.add 7) [.slice 66] fun s t u =>
 cond ((t:Int)==0)
 (T.ae ((q.add 7).add 1) [.int .u32] fun v =>
 cond (v==0)
 (cond (!p)
 dI
 (T.ae (q.add 9) [.int .i64] fun w =>
 T.ret (.bool (w==0))))
 bz)
 bz))
 (T.ae (q.add 2) [.int .i64,.int .i64,.int .i64,.int .i32,.int .i64] fun s t u v w =>
 eh (Sx.j6 (BinOp.eql) 62 (Operand.tmp 23) (Operand.tmp 24) (.agg #[vI s,vI t,vI u,.int .i32 v,vI w]) (.agg #[vI 0,vI 0,vI 0,.int .i32 0,vI 0])) fun x =>
 cond x
 (cond (!o)
 (cond (!p)
 dI
 (T.ae (q.add 9) [.int .i64] fun y =>
 T.ret (.bool (y==0))))
 (T.ae (q.add 7) [.slice 66] fun y z A =>
 cond ((z:Int)==0)
 (T.ae ((q.add 7).add 1) [.int .u32] fun B =>
 cond (B==0)
 (cond (!p)
 dI
 (T.ae (q.add 9) [.int .i64] fun C =>
 T.ret (.bool (C==0))))
 bz)
 bz))
 bz))
 bz)
def oJ (a:Int) (b:XA) (c d e f g:Int) (h:XC) (i j:Nat) (k l:Int) (m n o p:Bool):bQ YC [] Tryz.f70 [.agg #[vI a,.string b,vI c,vI d,vI e,.int .i32 f,vI g,.slice h i j,.int .u32 k,vI l],.bool m,.bool n,.bool o,.bool p]=j0 a b c d e f g h i j k l m n o p:=aw
def jB (a:Int):T :=
 T.loop [cj,aK] [.bool false,vI 1] fun b c =>
 cond (decide (c<=256))
 (cond (a==c)
 dI
 (T.again 0 [.bool b,vI (bf (2*c))]))
 bz
def nT (a:Int):bQ YC [] Tryz.f74 [vI a]=jB a:=aw
def kD (a:XC) (b c:Nat) (d:XC) (e f:Nat) (g:XC) (h i:Nat) (j:XC) (k l:Nat):T :=
 T.new [.slice a b c,.slice d e f,.slice g h i,.slice j k l] 30 fun m =>
 T.ae m [.slice 64] fun n o p =>
 T.ae (m.add 1) [.slice 64] fun q r s =>
 bq 39 [.slice n o p] false [(false,[.slice 9])] fun t u v =>
 T.az [((m.add 1),[.slice q r s])] <|
 bq 39 [.slice q r s] false [(false,[.slice 9])] fun w x y =>
 T.az [(m,[.slice n o p])] <|
 aR (Builtin.append_ #[28,28] 28 #[.slice t u v,.slice w x y]) fun z A B =>
 T.az [((m.add 1),[.slice q r s]),(m,[.slice n o p])] <|
 T.loop [eb,aK] [.slice z A B,vI 0] fun C D E F =>
 T.ae (m.add 2) [.slice 88] fun G H I =>
 bC F H
 (T.ae (m.add 2) [.slice 88] fun J K L =>
 aT F K J fun M =>
 T.ae (M.add (ay F 3)) [.string] fun N =>
 aR (Instr.buildSlice 28 1 #[(0,.string N)]) fun O P Q =>
 aR (Builtin.append_ #[28,28] 28 #[.slice C D E,.slice O P Q]) fun R S U =>
 T.again 0 [.slice R S U,bo F])
 (T.ret (.slice C D E))
def pF (a:XC) (b c:Nat) (d:XC) (e f:Nat) (g:XC) (h i:Nat) (j:XC) (k l:Nat):bQ YC [] Tryz.f11 [.agg #[.slice a b c,.slice d e f,.slice g h i,.slice j k l]]=kD a b c d e f g h i j k l:=aw
def iR (a:XC) (b c:Nat):T :=
 T.loop [eb,aK] [aM,vI 0] fun d e f g =>
 bC g b
 (aT g b a fun h =>
 T.ae (h.add (ay g 1)) [.string] fun i =>
 aP 38 [.slice d e f,.string i] fun j =>
 cond j
 (T.again 0 [.slice d e f,bo g])
 (aT g b a fun k =>
 T.ae (k.add (ay g 1)) [.string] fun l =>
 aR (Instr.buildSlice 28 1 #[(0,.string l)]) fun m n o =>
 aR (Builtin.append_ #[28,28] 28 #[.slice d e f,.slice m n o]) fun p q r =>
 T.loop [aK] [vI (e:Int)] fun s =>
 cond (decide (s>0))
 (T.need ((0<=(bf (s-1)))/\((bf (s-1))<(q:Int))) <|
 T.bd p fun t =>
 T.ae (t.add ((Int.toNat (bf (s-1)))*1)) [.string] fun u =>
 aT g b a fun v =>
 T.ae (v.add (ay g 1)) [.string] fun w =>
 cond (!((Op.bytesLess (ByteArray.toList u) (ByteArray.toList w)) || ((ByteArray.toList u)==(ByteArray.toList w))))
 (T.need ((0<=(bf (s-1)))/\((bf (s-1))<(q:Int))) <|
 T.bd p fun x =>
 T.ae (x.add ((Int.toNat (bf (s-1)))*1)) [.string] fun y =>
 aT s q p fun z =>
 T.ao (z.add (ay s 1)) [.string y] <|
 T.again 1 [vI (bf (s-1))])
 (aT g b a fun x =>
 T.ae (x.add (ay g 1)) [.string] fun y =>
 aT s q p fun z =>
 T.ao (z.add (ay s 1)) [.string y] <|
 T.again 0 [.slice p q r,bo g]))
 (aT g b a fun t =>
 T.ae (t.add (ay g 1)) [.string] fun u =>
 aT s q p fun v =>
 T.ao (v.add (ay s 1)) [.string u] <|
 T.again 0 [.slice p q r,bo g])))
 (T.ret (.slice d e f))
def mF (a:XC) (b c:Nat):bQ YC [] Tryz.f37 [.slice a b c]=iR a b c:=aw
def gy (a:XC) (b c:Nat) (d:XA):T :=
 T.loop [cj,aK] [.bool false,vI 0] fun e f =>
 bC f b
 (aT f b a fun g =>
 T.ae (g.add (ay f 1)) [.string] fun h =>
 cond ((ByteArray.toList h)==(ByteArray.toList d))
 dI
 (T.again 0 [.bool e,bo f]))
 bz
def iP (a:XC) (b c:Nat) (d:XA):bQ YC [] Tryz.f38 [.slice a b c,.string d]=gy a b c d:=aw
def iS (a:XC) (b c:Nat):T :=
 T.loop [eb,aK] [aM,vI 0] fun d e f g =>
 bC g b
 (aT g b a fun h =>
 T.ae (h.add (ay g 10)) [.int .i64] fun i =>
 cond (i==1)
 (aT g b a fun j =>
 T.ae ((j.add (ay g 10)).add 1) [.string] fun k =>
 aR (Instr.buildSlice 28 1 #[(0,.string k)]) fun l m n =>
 aR (Builtin.append_ #[28,28] 28 #[.slice d e f,.slice l m n]) fun o p q =>
 T.again 0 [.slice o p q,bo g])
 (T.again 0 [.slice d e f,bo g]))
 (T.ret (.slice d e f))
def mu (a:XC) (b c:Nat):bQ YC [] Tryz.f39 [.slice a b c]=iS a b c:=aw
def ju (a:XC) (b c:Nat) (d:XC) (e f:Nat) (g:XC) (h i:Nat) (j:XC) (k l:Nat):T :=
 T.new [.slice a b c,.slice d e f,.slice g h i,.slice j k l] 30 fun m =>
 T.ae m [.slice 64] fun n o p =>
 T.ae (m.add 1) [.slice 64] fun q r s =>
 cond (decide ((bf ((o:Int)+(r:Int)))>8192))
 (T.ret (vI 4))
 (T.ae (m.add 2) [.slice 88] fun t u v =>
 cond (decide ((u:Int)>8192))
 (T.ret (vI 4))
 (T.loop [aK,aK] [vI 0,vI 0] fun w x =>
 T.ae m [.slice 64] fun y z A =>
 bC x z
 (T.ae m [.slice 64] fun B C D =>
 aT x C B fun E =>
 T.ae (E.add (ay x 10)) (yI 66) fun F G H I J K L M N O P Q =>
 dh 34 [.agg #[vI F,.string G,vI H,vI I,vI J,.int .i32 K,vI L,.slice M N O,ar P,vI Q],vI 0] fun R =>
 cond (R != 0)
 (T.ret (vI 31))
 (T.again 0 [vI w,bo x]))
 (T.loop [aK,aK] [vI w,vI 0] fun B C =>
 T.ae (m.add 1) [.slice 64] fun D E F =>
 bC C E
 (T.ae (m.add 1) [.slice 64] fun G H I =>
 aT C H G fun J =>
 T.ae (J.add (ay C 10)) (yI 66) fun K L M N O P Q R S U V W =>
 dh 34 [.agg #[vI K,.string L,vI M,vI N,vI O,.int .i32 P,vI Q,.slice R S U,ar V,vI W],vI 1] fun X =>
 cond (X != 0)
 (T.ret (vI 31))
 (T.again 1 [vI B,bo C]))
 (T.loop [aK,aK] [vI B,vI 0] fun G H =>
 T.ae (m.add 2) [.slice 88] fun I J K =>
 bC H J
 (T.ae (m.add 2) [.slice 88] fun L M N =>
 aT H M L fun O =>
 T.ae (O.add (ay H 3)) [.string] fun P =>
 aP 35 [.string P] fun Q =>
 cond (!Q)
 (T.ret (vI 31))
 (T.ae (m.add 2) [.slice 88] fun R S U =>
 aT H S R fun V =>
 T.ae ((V.add (ay H 3)).add 1) (yL 66) fun W X Y Z =>
 aP 36 [.agg #[.slice W X Y,ar Z]] fun a0 =>
 cond (!a0)
 (T.ret (vI 31))
 (T.again 2 [vI G,bo H])))
 (T.ae m (yU 64 88) fun L M N O P Q R S U V W X =>
 bq 11 [.agg #[.slice L M N,.slice O P Q,.slice R S U,.slice V W X]] false [(false,[.slice 9])] fun Y Z a0 =>
 bq 37 [.slice Y Z a0] false [(false,[.slice 9])] fun a1 a2 a3 =>
 cond ((a2:Int) != (Z:Int))
 (T.ret (vI 31))
 (T.loop [aK,aK] [vI G,vI 0] fun a4 a5 =>
 T.ae (m.add 3) [.slice 9] fun a6 a7 a8 =>
 bC a5 a7
 (cond (decide (a5>0))
 (T.ae (m.add 3) [.slice 9] fun a9 b0 b1 =>
 aT a5 b0 a9 fun b2 =>
 T.ae (b2.add (ay a5 1)) [.string] fun b3 =>
 T.ae (m.add 3) [.slice 9] fun b4 b5 b6 =>
 T.need ((0<=(bf (a5-1)))/\((bf (a5-1))<(b5:Int))) <|
 T.bd b4 fun b7 =>
 T.ae (b7.add ((Int.toNat (bf (a5-1)))*1)) [.string] fun b8 =>
 cond ((Op.bytesLess (ByteArray.toList b3) (ByteArray.toList b8)) || ((ByteArray.toList b3)==(ByteArray.toList b8)))
 (T.ret (vI 31))
 (T.ae (m.add 3) [.slice 9] fun b9 c0 c1 =>
 aT a5 c0 b9 fun c2 =>
 T.ae (c2.add (ay a5 1)) [.string] fun c3 =>
 aP 38 [.slice Y Z a0,.string c3] fun c4 =>
 T.az [((m.add 3),[.slice b9 c0 c1]),((b7.add ((Int.toNat (bf (a5-1)))*1)),[.string b8]),((m.add 3),[.slice b4 b5 b6]),((b2.add (ay a5 1)),[.string b3]),((m.add 3),[.slice a9 b0 b1])] <|
 cond (!c4)
 (T.ret (vI 31))
 (T.again 3 [vI a4,bo a5])))
 (T.ae (m.add 3) [.slice 9] fun a9 b0 b1 =>
 aT a5 b0 a9 fun b2 =>
 T.ae (b2.add (ay a5 1)) [.string] fun b3 =>
 aP 38 [.slice Y Z a0,.string b3] fun b4 =>
 T.az [((m.add 3),[.slice a9 b0 b1])] <|
 cond (!b4)
 (T.ret (vI 31))
 (T.again 3 [vI a4,bo a5])))
 (T.ret (vI 0))))))))
def mX (a:XC) (b c:Nat) (d:XC) (e f:Nat) (g:XC) (h i:Nat) (j:XC) (k l:Nat):bQ YC [] Tryz.f10 [.agg #[.slice a b c,.slice d e f,.slice g h i,.slice j k l]]=ju a b c d e f g h i j k l:=aw
def tJ :T :=
 T.eK YC (Instr.buildSlice 186 43 #[(0,.agg #[.string ⟨#[110,111,112]⟩,.int .u8 0,vI 1]),(1,.agg #[.string ⟨#[104,97,108,116]⟩,.int .u8 1,vI 1]),(2,.agg #[.string ⟨#[114,101,116]⟩,.int .u8 2,vI 1]),(3,.agg #[.string ⟨#[112,114,105,110,116]⟩,.int .u8 3,vI 2]),(4,.agg #[.string ⟨#[105,110]⟩,.int .u8 4,vI 2]),(5,.agg #[.string ⟨#[112,117,115,104]⟩,.int .u8 5,vI 2]),(6,.agg #[.string ⟨#[112,111,112]⟩,.int .u8 6,vI 2]),(7,.agg #[.string ⟨#[106,114]⟩,.int .u8 7,vI 2]),(8,.agg #[.string ⟨#[110,101,103]⟩,.int .u8 8,vI 2]),(9,.agg #[.string ⟨#[110,111,116]⟩,.int .u8 9,vI 2]),(10,.agg #[.string ⟨#[122,116,117,114,110]⟩,.int .u8 10,vI 3]),(11,.agg #[.string ⟨#[122,99,111,110,106]⟩,.int .u8 11,vI 3]),(12,.agg #[.string ⟨#[109,111,118]⟩,.int .u8 16,vI 4]),(13,.agg #[.string ⟨#[97,100,100]⟩,.int .u8 17,vI 4]),(14,.agg #[.string ⟨#[115,117,98]⟩,.int .u8 18,vI 4]),(15,.agg #[.string ⟨#[109,117,108]⟩,.int .u8 19,vI 4]),(16,.agg #[.string ⟨#[100,105,118]⟩,.int .u8 20,vI 4]),(17,.agg #[.string ⟨#[97,110,100]⟩,.int .u8 21,vI 4]),(18,.agg #[.string ⟨#[111,114]⟩,.int .u8 22,vI 4]),(19,.agg #[.string ⟨#[120,111,114]⟩,.int .u8 23,vI 4]),(20,.agg #[.string ⟨#[115,104,108]⟩,.int .u8 24,vI 4]),(21,.agg #[.string ⟨#[115,104,114]⟩,.int .u8 25,vI 4]),(22,.agg #[.string ⟨#[108,116]⟩,.int .u8 26,vI 4]),(23,.agg #[.string ⟨#[101,113]⟩,.int .u8 27,vI 4]),(24,.agg #[.string ⟨#[108,100,98]⟩,.int .u8 28,vI 4]),(25,.agg #[.string ⟨#[108,100,119]⟩,.int .u8 29,vI 4]),(26,.agg #[.string ⟨#[108,100,109]⟩,.int .u8 30,vI 4]),(27,.agg #[.string ⟨#[115,116,109]⟩,.int .u8 31,vI 4]),(28,.agg #[.string ⟨#[122,109,111,118]⟩,.int .u8 32,vI 5]),(29,.agg #[.string ⟨#[122,97,100,100]⟩,.int .u8 33,vI 5]),(30,.agg #[.string ⟨#[122,115,117,98]⟩,.int .u8 34,vI 5]),(31,.agg #[.string ⟨#[122,109,117,108]⟩,.int .u8 35,vI 5]),(32,.agg #[.string ⟨#[122,114,101]⟩,.int .u8 36,vI 6]),(33,.agg #[.string ⟨#[122,105,109]⟩,.int .u8 37,vI 6]),(34,.agg #[.string ⟨#[122,115,101,116]⟩,.int .u8 38,vI 7]),(35,.agg #[.string ⟨#[108,105,115]⟩,.int .u8 48,vI 8]),(36,.agg #[.string ⟨#[116,114,97,112]⟩,.int .u8 49,vI 9]),(37,.agg #[.string ⟨#[108,105]⟩,.int .u8 50,vI 10]),(38,.agg #[.string ⟨#[108,100,112]⟩,.int .u8 51,vI 11]),(39,.agg #[.string ⟨#[106,109,112]⟩,.int .u8 64,vI 12]),(40,.agg #[.string ⟨#[99,97,108,108]⟩,.int .u8 67,vI 12]),(41,.agg #[.string ⟨#[106,122]⟩,.int .u8 70,vI 13]),(42,.agg #[.string ⟨#[106,110,122]⟩,.int .u8 73,vI 13])]) false [(false,[.slice 0])] fun a b c =>
 T.ret (.slice a b c)
def pI :bQ YC [] Tryz.f117 []=tJ :=aw
def fU (a b c d e:Int):T :=
 T.new [vI a,vI b,vI c,.int .i32 d,vI e] 62 fun f =>
 T.ae f [.int .i64] fun g =>
 dh 96 [vI g] fun h =>
 T.join [aK,aK]
 (cond (h==2)
 (cond (h==2)
 (T.again 0 [vI 8,vI 0])
 (cond (h==3)
 (T.again 0 [vI 4,vI 0])
 (cond (h==4)
 (T.again 0 [vI 8,vI 8])
 (cond (h==5)
 (T.again 0 [vI 4,vI 4])
 (cond (h==6)
 (T.again 0 [vI 8,vI 4])
 (cond (h==7)
 (T.again 0 [vI 4,vI 8])
 (T.again 0 [vI 0,vI 0])))))))
 (cond (h==8)
 (cond (h==8)
 (T.again 0 [vI 8,vI 0])
 (cond (h==3)
 (T.again 0 [vI 4,vI 0])
 (cond (h==4)
 (T.again 0 [vI 8,vI 8])
 (cond (h==5)
 (T.again 0 [vI 4,vI 4])
 (cond (h==6)
 (T.again 0 [vI 8,vI 4])
 (cond (h==7)
 (T.again 0 [vI 4,vI 8])
 (T.again 0 [vI 0,vI 0])))))))
 (cond (h==10)
 (cond (h==10)
 (T.again 0 [vI 8,vI 0])
 (cond (h==3)
 (T.again 0 [vI 4,vI 0])
 (cond (h==4)
 (T.again 0 [vI 8,vI 8])
 (cond (h==5)
 (T.again 0 [vI 4,vI 4])
 (cond (h==6)
 (T.again 0 [vI 8,vI 4])
 (cond (h==7)
 (T.again 0 [vI 4,vI 8])
 (T.again 0 [vI 0,vI 0])))))))
 (cond (h==11)
 (cond (h==11)
 (T.again 0 [vI 8,vI 0])
 (cond (h==3)
 (T.again 0 [vI 4,vI 0])
 (cond (h==4)
 (T.again 0 [vI 8,vI 8])
 (cond (h==5)
 (T.again 0 [vI 4,vI 4])
 (cond (h==6)
 (T.again 0 [vI 8,vI 4])
 (cond (h==7)
 (T.again 0 [vI 4,vI 8])
 (T.again 0 [vI 0,vI 0])))))))
 (cond (h==13)
 (T.again 0 [vI 8,vI 0])
 (cond (h==3)
 (T.again 0 [vI 4,vI 0])
 (cond (h==4)
 (T.again 0 [vI 8,vI 8])
 (cond (h==5)
 (T.again 0 [vI 4,vI 4])
 (cond (h==6)
 (T.again 0 [vI 8,vI 4])
 (cond (h==7)
 (T.again 0 [vI 4,vI 8])
 (T.again 0 [vI 0,vI 0]))))))))))) fun i j =>
 T.ae (f.add 1) [.int .i64] fun k =>
 cond (decide (k<0))
 bz
 (T.ae (f.add 2) [.int .i64] fun l =>
 cond (decide (l<0))
 bz
 (T.ae (f.add 1) [.int .i64] fun m =>
 cond (decide (m>=i))
 (cond (decide (i>0))
 bz
 (T.ae (f.add 1) [.int .i64] fun n =>
 cond (n != 0)
 bz
 (T.ae (f.add 2) [.int .i64] fun o =>
 cond (decide (o>=j))
 (cond (decide (j>0))
 bz
 (T.ae (f.add 2) [.int .i64] fun p =>
 cond (p != 0)
 bz
 (cond (h != 7)
 dI
 (T.ae (f.add 3) [.int .i32] fun q =>
 cond (decide (q>=0))
 (T.ae (f.add 3) [.int .i32] fun r =>
 T.ret (.bool (decide (r<=7))))
 bz))))
 (cond (h != 7)
 dI
 (T.ae (f.add 3) [.int .i32] fun p =>
 cond (decide (p>=0))
 (T.ae (f.add 3) [.int .i32] fun q =>
 T.ret (.bool (decide (q<=7))))
 bz)))))
 (T.ae (f.add 2) [.int .i64] fun n =>
 cond (decide (n>=j))
 (cond (decide (j>0))
 bz
 (T.ae (f.add 2) [.int .i64] fun o =>
 cond (o != 0)
 bz
 (cond (h != 7)
 dI
 (T.ae (f.add 3) [.int .i32] fun p =>
 cond (decide (p>=0))
 (T.ae (f.add 3) [.int .i32] fun q =>
 T.ret (.bool (decide (q<=7))))
 bz))))
 (cond (h != 7)
 dI
 (T.ae (f.add 3) [.int .i32] fun o =>
 cond (decide (o>=0))
 (T.ae (f.add 3) [.int .i32] fun p =>
 T.ret (.bool (decide (p<=7))))
 bz)))))
def kc (a b c d e:Int):bQ YC [1025] Tryz.f97 [.agg #[vI a,vI b,vI c,.int .i32 d,vI e]]=fU a b c d e:=aw
def gP (a:Int) (b:XA) (c d e f g:Int) (h:XC) (i j:Nat) (k l:Int):T :=
 T.new [vI a,.string b,vI c,vI d,vI e,.int .i32 f,vI g,.slice h i j,ar k,vI l] 64 fun m =>
 T.join [cj]
 (T.ae m [.int .i64] fun n =>
 cond (n==1)
 (T.ae (m.add 1) [.string] fun o =>
 aP 35 [.string o] fun p =>
 cond p
 (T.ae m (yI 66) fun q r s t u v w x y z A B =>
 aP 70 [.agg #[vI q,.string r,vI s,vI t,vI u,.int .i32 v,vI w,.slice x y z,ar A,vI B],.bool false,.bool true,.bool true,.bool true] fun C =>
 T.again 0 [.bool C])
 (T.again 0 [.bool false]))
 (cond (n==2)
 (T.ae (m.add 2) [.int .i64,.int .i64,.int .i64,.int .i32,.int .i64] fun o p q r s =>
 T.new [vI 0,vI 0,vI 0,.int .i32 0,vI 0] 62 fun t =>
 T.ao t [vI o,vI p,vI q,.int .i32 r,vI s] <|
 T.ae (t.add 4) [.int .i64] fun u =>
 T.join []
 (T.ae t [.int .i64] fun v =>
 aP 71 [vI v] fun w =>
 cond w
 (T.ao (t.add 4) [vI 1] <|
 T.again 1 [])
 (T.again 1 [])) <| T.join [cj]
 (cond (u==0)
 (T.ae t [.int .i64,.int .i64,.int .i64,.int .i32,.int .i64] fun v w x y z =>
 dh 72 [.agg #[vI v,vI w,vI x,.int .i32 y,vI z]] fun A =>
 cond (A==0)
 (T.ae m (yI 66) fun B C D E F G H I J K L M =>
 aP 70 [.agg #[vI B,.string C,vI D,vI E,vI F,.int .i32 G,vI H,.slice I J K,ar L,vI M],.bool true,.bool false,.bool false,.bool true] fun N =>
 T.again 1 [.bool N])
 (T.again 1 [.bool false]))
 (T.again 1 [.bool false])) fun v =>
 T.ae t [.int .i64] fun w =>
 aP 73 [vI w] fun x =>
 cond x
 (cond v
 (T.ae (t.add 3) [.int .i32] fun y =>
 cond (y==0)
 (T.ae (m.add 7) (yL 66) fun z A B C =>
 aP 36 [.agg #[.slice z A B,ar C]] fun D =>
 T.again 0 [.bool D])
 (T.again 0 [.bool false]))
 (T.again 0 [.bool false]))
 (cond v
 (T.ae m (yI 66) fun y z A B C D E F G H I J =>
 aP 70 [.agg #[vI y,.string z,vI A,vI B,vI C,.int .i32 D,vI E,.slice F G H,ar I,vI J],.bool false,.bool false,.bool true,.bool false] fun K =>
 T.again 0 [.bool K])
 (T.again 0 [.bool false])))
 (cond (n==3)
 (T.ae (m.add 9) [.int .i64] fun o =>
 aP 74 [vI o] fun p =>
 cond p
 (T.ae m (yI 66) fun q r s t u v w x y z A B =>
 aP 70 [.agg #[vI q,.string r,vI s,vI t,vI u,.int .i32 v,vI w,.slice x y z,ar A,vI B],.bool true,.bool true,.bool true,.bool false] fun C =>
 T.again 0 [.bool C])
 (T.again 0 [.bool false]))
 (cond (n==4)
 (T.ae m (yI 66) fun o p q r s t u v w x y z =>
 aP 70 [.agg #[vI o,.string p,vI q,vI r,vI s,.int .i32 t,vI u,.slice v w x,ar y,vI z],.bool true,.bool true,.bool true,.bool true] fun A =>
 T.again 0 [.bool A])
 (cond (n==5)
 (T.again 0 [.bool false])
 (cond (n==6)
 (T.again 0 [.bool false])
 (cond (n==7)
 (T.again 0 [.bool false])
 (T.again 0 [.bool false])))))))) fun n =>
 cond (!n)
 (T.ret (vI 31))
 (T.ret (vI 0))
def ln (a:Int) (b:XA) (c d e f g:Int) (h:XC) (i j:Nat) (k l:Int):bQ YC [1012,1013,1026] Tryz.f34 [.agg #[vI a,.string b,vI c,vI d,vI e,.int .i32 f,vI g,.slice h i j,.int .u32 k,vI l],vI 0]=gP a b c d e f g h i j k l:=aw
def gQ (a:Int) (b:XA) (c d e f g:Int) (h:XC) (i j:Nat) (k l:Int):T :=
 T.new [vI a,.string b,vI c,vI d,vI e,.int .i32 f,vI g,.slice h i j,ar k,vI l] 64 fun m =>
 T.join [cj]
 (T.ae m [.int .i64] fun n =>
 cond (n==1)
 (T.ae (m.add 1) [.string] fun o =>
 aP 35 [.string o] fun p =>
 cond p
 (T.ae m (yI 66) fun q r s t u v w x y z A B =>
 aP 70 [.agg #[vI q,.string r,vI s,vI t,vI u,.int .i32 v,vI w,.slice x y z,ar A,vI B],.bool false,.bool true,.bool true,.bool true] fun C =>
 T.again 0 [.bool C])
 (T.again 0 [.bool false]))
 (cond (n==2)
 (T.ae (m.add 2) [.int .i64,.int .i64,.int .i64,.int .i32,.int .i64] fun o p q r s =>
 T.new [vI 0,vI 0,vI 0,.int .i32 0,vI 0] 62 fun t =>
 T.ao t [vI o,vI p,vI q,.int .i32 r,vI s] <|
 T.ae (t.add 4) [.int .i64] fun u =>
 T.join []
 (T.ae t [.int .i64] fun v =>
 aP 71 [vI v] fun w =>
 cond w
 (T.ao (t.add 4) [vI 1] <|
 T.again 1 [])
 (T.again 1 [])) <| T.join [cj]
 (T.again 1 [.bool false]) fun v =>
 T.ae t [.int .i64] fun w =>
 aP 73 [vI w] fun x =>
 cond x
 (cond v
 (T.ae (t.add 3) [.int .i32] fun y =>
 cond (y==0)
 (T.ae (m.add 7) (yL 66) fun z A B C =>
 aP 36 [.agg #[.slice z A B,ar C]] fun D =>
 T.again 0 [.bool D])
 (T.again 0 [.bool false]))
 (T.again 0 [.bool false]))
 (cond v
 (T.ae m (yI 66) fun y z A B C D E F G H I J =>
 aP 70 [.agg #[vI y,.string z,vI A,vI B,vI C,.int .i32 D,vI E,.slice F G H,ar I,vI J],.bool false,.bool false,.bool true,.bool false] fun K =>
 T.again 0 [.bool K])
 (T.again 0 [.bool false])))
 (cond (n==3)
 (T.ae (m.add 9) [.int .i64] fun o =>
 aP 74 [vI o] fun p =>
 cond p
 (T.ae m (yI 66) fun q r s t u v w x y z A B =>
 aP 70 [.agg #[vI q,.string r,vI s,vI t,vI u,.int .i32 v,vI w,.slice x y z,ar A,vI B],.bool true,.bool true,.bool true,.bool false] fun C =>
 T.again 0 [.bool C])
 (T.again 0 [.bool false]))
 (cond (n==4)
 (T.again 0 [.bool false])
 (cond (n==5)
 (T.ae (m.add 9) [.int .i64] fun o =>
 cond (decide (o>=(-128)))
 (T.ae (m.add 9) [.int .i64] fun p =>
 cond (decide (p<=255))
 (T.ae m (yI 66) fun q r s t u v w x y z A B =>
 aP 70 [.agg #[vI q,.string r,vI s,vI t,vI u,.int .i32 v,vI w,.slice x y z,ar A,vI B],.bool true,.bool true,.bool true,.bool false] fun C =>
 T.again 0 [.bool C])
 (T.again 0 [.bool false]))
 (T.again 0 [.bool false]))
 (cond (n==6)
 (T.ae (m.add 7) (yL 66) fun o p q r =>
 aP 36 [.agg #[.slice o p q,ar r]] fun s =>
 cond s
 (T.ae m (yI 66) fun t u v w x y z A B C D E =>
 aP 70 [.agg #[vI t,.string u,vI v,vI w,vI x,.int .i32 y,vI z,.slice A B C,ar D,vI E],.bool true,.bool true,.bool false,.bool true] fun F =>
 T.again 0 [.bool F])
 (T.again 0 [.bool false]))
 (cond (n==7)
 (T.ae (m.add 9) [.int .i64] fun o =>
 cond (decide (o>=0))
 (T.ae (m.add 9) [.int .i64] fun p =>
 cond (decide (p<=1048576))
 (T.ae m (yI 66) fun q r s t u v w x y z A B =>
 aP 70 [.agg #[vI q,.string r,vI s,vI t,vI u,.int .i32 v,vI w,.slice x y z,ar A,vI B],.bool true,.bool true,.bool true,.bool false] fun C =>
 T.again 0 [.bool C])
 (T.again 0 [.bool false]))
 (T.again 0 [.bool false]))
 (T.again 0 [.bool false])))))))) fun n =>
 cond (!n)
 (T.ret (vI 31))
 (T.ret (vI 0))
def kA (a:Int) (b:XA) (c d e f g:Int) (h:XC) (i j:Nat) (k l:Int):bQ YC [1012,1013,1026] Tryz.f34 [.agg #[vI a,.string b,vI c,vI d,vI e,.int .i32 f,vI g,.slice h i j,.int .u32 k,vI l],vI 1]=gQ a b c d e f g h i j k l:=aw
end Go.Sx
