/- Trees of functions. No condition. -/
import Derived.Test.YtmdncdaladplkaaGreatDoorSxF
import Derived.Test.YtmdncdaladplkaaGreatDoorProg
import Derived.KernelRfl
set_option linter.all false
set_option maxRecDepth 100000
set_option maxHeartbeats 4000000
namespace Go.Sx
open Go.Proofs
def kz (a:Int):T :=
 bP 49 [] false [(false,[.slice 144])] fun b c d =>
 cond (decide (a<1))
 (T.ret (vI 0))
 (cond (decide (a>(c:Int)))
 (T.ret (vI 0))
 (T.need ((0<=(bq (a-1)))/\((bq (a-1))<(c:Int))) <|
 T.bf b fun e =>
 T.af ((e.add ((Int.toNat (bq (a-1)))*3)).add 2) [.int .i64] fun f =>
 T.ret (vI f)))
def oZ (a:Int):bZ Xaz [] Tryz.f26 [vI a]=kz a:=ax
def kp (a:Int):T :=
 cQ 26 [vI a] fun b =>
 cond (b==12)
 ez
 (cQ 26 [vI a] fun c =>
 T.ret (.bool (c==13)))
def pe (a:Int):bZ Xaz [] Tryz.f125 [vI a]=kp a:=ax
def lE (a b:Int):T :=
 cond (b==1)
 (cond (decide (a>=(-128)))
 (T.ret (.bool (decide (a<=127))))
 bz)
 (cond (b==2)
 (cond (decide (a>=(-32768)))
 (T.ret (.bool (decide (a<=32767))))
 bz)
 (cond (b==4)
 ez
 bz))
def qa (a b:Int):bZ Xaz [] Tryz.f151 [.int .i32 a,vI b]=lE a b:=ax
def kD (a b c d e:Int):T :=
 T.new [vI a,vI b,vI c,.int .i32 d,vI e] 49 fun f =>
 T.af f [.int .i64] fun g =>
 cQ 26 [vI g] fun h =>
 cond (h==0)
 (T.ret (vI 11))
 (T.af f [.int .i64,.int .i64,.int .i64,.int .i32,.int .i64] fun i j k l m =>
 aZ 150 [.agg #[vI i,vI j,vI k,.int .i32 l,vI m]] fun n =>
 cond (!n)
 (T.ret (vI 12))
 (cond (h==12)
 (T.af (f.add 4) [.int .i64] fun o =>
 cond (o != 1)
 (T.af (f.add 4) [.int .i64] fun p =>
 cond (p != 2)
 (T.af (f.add 4) [.int .i64] fun q =>
 cond (q != 4)
 (T.ret (vI 13))
 (T.af (f.add 3) [.int .i32] fun r =>
 T.af (f.add 4) [.int .i64] fun s =>
 aZ 151 [.int .i32 r,vI s] fun t =>
 cond (!t)
 (T.ret (vI 13))
 (T.ret (vI 0))))
 (T.af (f.add 3) [.int .i32] fun q =>
 T.af (f.add 4) [.int .i64] fun r =>
 aZ 151 [.int .i32 q,vI r] fun s =>
 cond (!s)
 (T.ret (vI 13))
 (T.ret (vI 0))))
 (T.af (f.add 3) [.int .i32] fun p =>
 T.af (f.add 4) [.int .i64] fun q =>
 aZ 151 [.int .i32 p,vI q] fun r =>
 cond (!r)
 (T.ret (vI 13))
 (T.ret (vI 0))))
 (cond (h==13)
 (T.af (f.add 4) [.int .i64] fun o =>
 cond (o != 1)
 (T.af (f.add 4) [.int .i64] fun p =>
 cond (p != 2)
 (T.af (f.add 4) [.int .i64] fun q =>
 cond (q != 4)
 (T.ret (vI 13))
 (T.af (f.add 3) [.int .i32] fun r =>
 T.af (f.add 4) [.int .i64] fun s =>
 aZ 151 [.int .i32 r,vI s] fun t =>
 cond (!t)
 (T.ret (vI 13))
 (T.ret (vI 0))))
 (T.af (f.add 3) [.int .i32] fun q =>
 T.af (f.add 4) [.int .i64] fun r =>
 aZ 151 [.int .i32 q,vI r] fun s =>
 cond (!s)
 (T.ret (vI 13))
 (T.ret (vI 0))))
 (T.af (f.add 3) [.int .i32] fun p =>
 T.af (f.add 4) [.int .i64] fun q =>
 aZ 151 [.int .i32 p,vI q] fun r =>
 cond (!r)
 (T.ret (vI 13))
 (T.ret (vI 0))))
 (T.af (f.add 4) [.int .i64] fun o =>
 cond (o != 0)
 (T.ret (vI 13))
 (T.af (f.add 3) [.int .i32] fun p =>
 cond (h==8)
 (T.af (f.add 3) [.int .i32] fun q =>
 cond (decide (q>=(-128)))
 (T.af (f.add 3) [.int .i32] fun r =>
 cond (!(decide (r<=127)))
 (T.ret (vI 13))
 (T.ret (vI 0)))
 (T.ret (vI 13)))
 (cond (h==9)
 (T.af (f.add 3) [.int .i32] fun q =>
 cond (decide (q>=0))
 (T.af (f.add 3) [.int .i32] fun r =>
 cond (!(decide (r<=255)))
 (T.ret (vI 13))
 (T.ret (vI 0)))
 (T.ret (vI 13)))
 (cond (h==11)
 (T.af (f.add 3) [.int .i32] fun q =>
 cond (decide (q>=0))
 (T.af (f.add 3) [.int .i32] fun r =>
 cond (!(decide (r<=4095)))
 (T.ret (vI 13))
 (T.ret (vI 0)))
 (T.ret (vI 13)))
 (cond (h==10)
 (cond (h==10)
 (T.ret (vI 0))
 (cond (!(p==0))
 (T.ret (vI 13))
 (T.ret (vI 0))))
 (cond (h==7)
 (T.ret (vI 0))
 (cond (!(p==0))
 (T.ret (vI 13))
 (T.ret (vI 0))))))))))))
def oB (a b c d e:Int):bZ Xaz [] Tryz.f126 [.agg #[vI a,vI b,vI c,.int .i32 d,vI e]]=kD a b c d e:=ax
def kZ (a:Int):T :=
 cQ 26 [vI a] fun b =>
 cond (b==10)
 ez
 (cond (b==11)
 ez
 (cond (b==12)
 ez
 (T.ret (.bool (b==13)))))
def qA (a:Int):bZ Xaz [] Tryz.f127 [vI a]=kZ a:=ax
def ly (a:Int) (b:Xaa) (c d e f g:Int) (h:Xac) (i j:Nat) (k l:Int) (m n o p:Bool):T :=
 T.new [vI a,.string b,vI c,vI d,vI e,.int .i32 f,vI g,.slice h i j,aF k,vI l] 55 fun q =>
 cond (!m)
 (cond (!n)
 (cond (!o)
 (cond (!p)
 ez
 (T.af (q.add 9) [.int .i64] fun r =>
 T.ret (.bool (r==0))))
 (T.af (q.add 7) [.slice 64] fun r s t =>
 cond ((s:Int)==0)
 (T.af ((q.add 7).add 1) [.int .u32] fun u =>
 cond (u==0)
 (cond (!p)
 ez
 (T.af (q.add 9) [.int .i64] fun v =>
 T.ret (.bool (v==0))))
 bz)
 bz))
 (T.af (q.add 2) [.int .i64,.int .i64,.int .i64,.int .i32,.int .i64] fun r s t u v =>
 fh (Sx.lW (BinOp.eql) 49 (Operand.tmp 23) (Operand.tmp 24) (.agg #[vI r,vI s,vI t,.int .i32 u,vI v]) (.agg #[vI 0,vI 0,vI 0,.int .i32 0,vI 0])) fun w =>
 cond w
 (cond (!o)
 (cond (!p)
 ez
 (T.af (q.add 9) [.int .i64] fun x =>
 T.ret (.bool (x==0))))
 (T.af (q.add 7) [.slice 64] fun x y z =>
 cond ((y:Int)==0)
 (T.af ((q.add 7).add 1) [.int .u32] fun A =>
 cond (A==0)
 (cond (!p)
 ez
 (T.af (q.add 9) [.int .i64] fun B =>
 T.ret (.bool (B==0))))
 bz)
 bz))
 bz))
 (T.af (q.add 1) [.string] fun r =>
 cond ((ByteArray.toList r)==[])
 (cond (!n)
 (cond (!o)
 (cond (!p)
 ez
 (T.af (q.add 9) [.int .i64] fun s =>
 T.ret (.bool (s==0))))
 (T.af (q.add 7) [.slice 64] fun s t u =>
 cond ((t:Int)==0)
 (T.af ((q.add 7).add 1) [.int .u32] fun v =>
 cond (v==0)
 (cond (!p)
 ez
 (T.af (q.add 9) [.int .i64] fun w =>
 T.ret (.bool (w==0))))
 bz)
 bz))
 (T.af (q.add 2) [.int .i64,.int .i64,.int .i64,.int .i32,.int .i64] fun s t u v w =>
 fh (Sx.lW (BinOp.eql) 49 (Operand.tmp 23) (Operand.tmp 24) (.agg #[vI s,vI t,vI u,.int .i32 v,vI w]) (.agg #[vI 0,vI 0,vI 0,.int .i32 0,vI 0])) fun x =>
 cond x
 (cond (!o)
 (cond (!p)
 ez
 (T.af (q.add 9) [.int .i64] fun y =>
 T.ret (.bool (y==0))))
 (T.af (q.add 7) [.slice 64] fun y z A =>
 cond ((z:Int)==0)
 (T.af ((q.add 7).add 1) [.int .u32] fun B =>
 cond (B==0)
 (cond (!p)
 ez
 (T.af (q.add 9) [.int .i64] fun C =>
 T.ret (.bool (C==0))))
 bz)
 bz))
 bz))
 bz)
def qx (a:Int) (b:Xaa) (c d e f g:Int) (h:Xac) (i j:Nat) (k l:Int) (m n o p:Bool):bZ Xaz [] Tryz.f124 [.agg #[vI a,.string b,vI c,vI d,vI e,.int .i32 f,vI g,.slice h i j,.int .u32 k,vI l],.bool m,.bool n,.bool o,.bool p]=ly a b c d e f g h i j k l m n o p:=ax
def kC (a:Int):T :=
 T.loop [cn,aQ] [.bool false,vI 1] fun b c =>
 cond (decide (c<=256))
 (cond (a==c)
 ez
 (T.again 0 [.bool b,vI (bq (2*c))]))
 bz
def pI (a:Int):bZ Xaz [] Tryz.f128 [vI a]=kC a:=ax
def mh (a:Xac) (b c:Nat) (d:Xac) (e f:Nat) (g:Xac) (h i:Nat) (j:Xac) (k l:Nat):T :=
 T.new [.slice a b c,.slice d e f,.slice g h i,.slice j k l] 70 fun m =>
 T.af m [.slice 55] fun n o p =>
 T.af (m.add 1) [.slice 55] fun q r s =>
 bP 129 [.slice n o p] false [(false,[.slice 9])] fun t u v =>
 T.bi [((m.add 1),[.slice q r s])] <|
 bP 129 [.slice q r s] false [(false,[.slice 9])] fun w x y =>
 T.bi [(m,[.slice n o p])] <|
 bn (Builtin.append_ #[68,68] 68 #[.slice t u v,.slice w x y]) fun z A B =>
 T.bi [((m.add 1),[.slice q r s]),(m,[.slice n o p])] <|
 T.loop [cY,aQ] [.slice z A B,vI 0] fun C D E F =>
 T.af (m.add 2) [.slice 116] fun G H I =>
 bt F H
 (T.af (m.add 2) [.slice 116] fun J K L =>
 aY F K J fun M =>
 T.af (M.add (aI F 3)) [.string] fun N =>
 bn (Instr.buildSlice 68 1 #[(0,.string N)]) fun O P Q =>
 bn (Builtin.append_ #[68,68] 68 #[.slice C D E,.slice O P Q]) fun R S U =>
 T.again 0 [.slice R S U,bh F])
 (T.ret (.slice C D E))
def rB (a:Xac) (b c:Nat) (d:Xac) (e f:Nat) (g:Xac) (h i:Nat) (j:Xac) (k l:Nat):bZ Xaz [] Tryz.f98 [.agg #[.slice a b c,.slice d e f,.slice g h i,.slice j k l]]=mh a b c d e f g h i j k l:=ax
def jL (a:Xac) (b c:Nat):T :=
 T.loop [cY,aQ] [bg,vI 0] fun d e f g =>
 bt g b
 (aY g b a fun h =>
 T.af (h.add (aI g 1)) [.string] fun i =>
 aZ 52 [.slice d e f,.string i] fun j =>
 cond j
 (T.again 0 [.slice d e f,bh g])
 (aY g b a fun k =>
 T.af (k.add (aI g 1)) [.string] fun l =>
 bn (Instr.buildSlice 68 1 #[(0,.string l)]) fun m n o =>
 bn (Builtin.append_ #[68,68] 68 #[.slice d e f,.slice m n o]) fun p q r =>
 T.loop [aQ] [vI (e:Int)] fun s =>
 cond (decide (s>0))
 (T.need ((0<=(bq (s-1)))/\((bq (s-1))<(q:Int))) <|
 T.bf p fun t =>
 T.af (t.add ((Int.toNat (bq (s-1)))*1)) [.string] fun u =>
 aY g b a fun v =>
 T.af (v.add (aI g 1)) [.string] fun w =>
 cond (!((Op.bytesLess (ByteArray.toList u) (ByteArray.toList w)) || ((ByteArray.toList u)==(ByteArray.toList w))))
 (T.need ((0<=(bq (s-1)))/\((bq (s-1))<(q:Int))) <|
 T.bf p fun x =>
 T.af (x.add ((Int.toNat (bq (s-1)))*1)) [.string] fun y =>
 aY s q p fun z =>
 T.aD (z.add (aI s 1)) [.string y] <|
 T.again 1 [vI (bq (s-1))])
 (aY g b a fun x =>
 T.af (x.add (aI g 1)) [.string] fun y =>
 aY s q p fun z =>
 T.aD (z.add (aI s 1)) [.string y] <|
 T.again 0 [.slice p q r,bh g]))
 (aY g b a fun t =>
 T.af (t.add (aI g 1)) [.string] fun u =>
 aY s q p fun v =>
 T.aD (v.add (aI s 1)) [.string u] <|
 T.again 0 [.slice p q r,bh g])))
 (T.ret (.slice d e f))
def oi (a:Xac) (b c:Nat):bZ Xaz [] Tryz.f53 [.slice a b c]=jL a b c:=ax
def iH (a:Xac) (b c:Nat) (d:Xaa):T :=
 T.loop [cn,aQ] [.bool false,vI 0] fun e f =>
 bt f b
 (aY f b a fun g =>
 T.af (g.add (aI f 1)) [.string] fun h =>
 cond ((ByteArray.toList h)==(ByteArray.toList d))
 ez
 (T.again 0 [.bool e,bh f]))
 bz
def jI (a:Xac) (b c:Nat) (d:Xaa):bZ Xaz [] Tryz.f52 [.slice a b c,.string d]=iH a b c d:=ax
def jM (a:Xac) (b c:Nat):T :=
 T.loop [cY,aQ] [bg,vI 0] fun d e f g =>
 bt g b
 (aY g b a fun h =>
 T.af (h.add (aI g 10)) [.int .i64] fun i =>
 cond (i==1)
 (aY g b a fun j =>
 T.af ((j.add (aI g 10)).add 1) [.string] fun k =>
 bn (Instr.buildSlice 68 1 #[(0,.string k)]) fun l m n =>
 bn (Builtin.append_ #[68,68] 68 #[.slice d e f,.slice l m n]) fun o p q =>
 T.again 0 [.slice o p q,bh g])
 (T.again 0 [.slice d e f,bh g]))
 (T.ret (.slice d e f))
def nT (a:Xac) (b c:Nat):bZ Xaz [] Tryz.f129 [.slice a b c]=jM a b c:=ax
def kj (a:Xac) (b c:Nat) (d:Xac) (e f:Nat) (g:Xac) (h i:Nat) (j:Xac) (k l:Nat):T :=
 T.new [.slice a b c,.slice d e f,.slice g h i,.slice j k l] 70 fun m =>
 T.af m [.slice 55] fun n o p =>
 T.af (m.add 1) [.slice 55] fun q r s =>
 cond (decide ((bq ((o:Int)+(r:Int)))>8192))
 (T.ret (vI 4))
 (T.af (m.add 2) [.slice 116] fun t u v =>
 cond (decide ((u:Int)>8192))
 (T.ret (vI 4))
 (T.loop [aQ,aQ] [vI 0,vI 0] fun w x =>
 T.af m [.slice 55] fun y z A =>
 bt x z
 (T.af m [.slice 55] fun B C D =>
 aY x C B fun E =>
 T.af (E.add (aI x 10)) (yI 64) fun F G H I J K L M N O P Q =>
 cQ 96 [.agg #[vI F,.string G,vI H,vI I,vI J,.int .i32 K,vI L,.slice M N O,aF P,vI Q],vI 0] fun R =>
 cond (R != 0)
 (T.ret (vI 31))
 (T.again 0 [vI w,bh x]))
 (T.loop [aQ,aQ] [vI w,vI 0] fun B C =>
 T.af (m.add 1) [.slice 55] fun D E F =>
 bt C E
 (T.af (m.add 1) [.slice 55] fun G H I =>
 aY C H G fun J =>
 T.af (J.add (aI C 10)) (yI 64) fun K L M N O P Q R S U V W =>
 cQ 96 [.agg #[vI K,.string L,vI M,vI N,vI O,.int .i32 P,vI Q,.slice R S U,aF V,vI W],vI 1] fun X =>
 cond (X != 0)
 (T.ret (vI 31))
 (T.again 1 [vI B,bh C]))
 (T.loop [aQ,aQ] [vI B,vI 0] fun G H =>
 T.af (m.add 2) [.slice 116] fun I J K =>
 bt H J
 (T.af (m.add 2) [.slice 116] fun L M N =>
 aY H M L fun O =>
 T.af (O.add (aI H 3)) [.string] fun P =>
 aZ 78 [.string P] fun Q =>
 cond (!Q)
 (T.ret (vI 31))
 (T.af (m.add 2) [.slice 116] fun R S U =>
 aY H S R fun V =>
 T.af ((V.add (aI H 3)).add 1) (yL 64) fun W X Y Z =>
 aZ 97 [.agg #[.slice W X Y,aF Z]] fun a0 =>
 cond (!a0)
 (T.ret (vI 31))
 (T.again 2 [vI G,bh H])))
 (T.af m (yU 55 116) fun L M N O P Q R S U V W X =>
 bP 98 [.agg #[.slice L M N,.slice O P Q,.slice R S U,.slice V W X]] false [(false,[.slice 9])] fun Y Z a0 =>
 bP 53 [.slice Y Z a0] false [(false,[.slice 9])] fun a1 a2 a3 =>
 cond ((a2:Int) != (Z:Int))
 (T.ret (vI 31))
 (T.loop [aQ,aQ] [vI G,vI 0] fun a4 a5 =>
 T.af (m.add 3) [.slice 9] fun a6 a7 a8 =>
 bt a5 a7
 (cond (decide (a5>0))
 (T.af (m.add 3) [.slice 9] fun a9 b0 b1 =>
 aY a5 b0 a9 fun b2 =>
 T.af (b2.add (aI a5 1)) [.string] fun b3 =>
 T.af (m.add 3) [.slice 9] fun b4 b5 b6 =>
 T.need ((0<=(bq (a5-1)))/\((bq (a5-1))<(b5:Int))) <|
 T.bf b4 fun b7 =>
 T.af (b7.add ((Int.toNat (bq (a5-1)))*1)) [.string] fun b8 =>
 cond ((Op.bytesLess (ByteArray.toList b3) (ByteArray.toList b8)) || ((ByteArray.toList b3)==(ByteArray.toList b8)))
 (T.ret (vI 31))
 (T.af (m.add 3) [.slice 9] fun b9 c0 c1 =>
 aY a5 c0 b9 fun c2 =>
 T.af (c2.add (aI a5 1)) [.string] fun c3 =>
 aZ 52 [.slice Y Z a0,.string c3] fun c4 =>
 T.bi [((m.add 3),[.slice b9 c0 c1]),((b7.add ((Int.toNat (bq (a5-1)))*1)),[.string b8]),((m.add 3),[.slice b4 b5 b6]),((b2.add (aI a5 1)),[.string b3]),((m.add 3),[.slice a9 b0 b1])] <|
 cond (!c4)
 (T.ret (vI 31))
 (T.again 3 [vI a4,bh a5])))
 (T.af (m.add 3) [.slice 9] fun a9 b0 b1 =>
 aY a5 b0 a9 fun b2 =>
 T.af (b2.add (aI a5 1)) [.string] fun b3 =>
 aZ 52 [.slice Y Z a0,.string b3] fun b4 =>
 T.bi [((m.add 3),[.slice a9 b0 b1])] <|
 cond (!b4)
 (T.ret (vI 31))
 (T.again 3 [vI a4,bh a5])))
 (T.ret (vI 0))))))))
def oH (a:Xac) (b c:Nat) (d:Xac) (e f:Nat) (g:Xac) (h i:Nat) (j:Xac) (k l:Nat):bZ Xaz [] Tryz.f70 [.agg #[.slice a b c,.slice d e f,.slice g h i,.slice j k l]]=kj a b c d e f g h i j k l:=ax
def vD :T :=
 T.eH Xaz (Instr.buildSlice 141 43 #[(0,.agg #[.string ⟨#[110,111,112]⟩,.int .u8 0,vI 1]),(1,.agg #[.string ⟨#[104,97,108,116]⟩,.int .u8 1,vI 1]),(2,.agg #[.string ⟨#[114,101,116]⟩,.int .u8 2,vI 1]),(3,.agg #[.string ⟨#[112,114,105,110,116]⟩,.int .u8 3,vI 2]),(4,.agg #[.string ⟨#[105,110]⟩,.int .u8 4,vI 2]),(5,.agg #[.string ⟨#[112,117,115,104]⟩,.int .u8 5,vI 2]),(6,.agg #[.string ⟨#[112,111,112]⟩,.int .u8 6,vI 2]),(7,.agg #[.string ⟨#[106,114]⟩,.int .u8 7,vI 2]),(8,.agg #[.string ⟨#[110,101,103]⟩,.int .u8 8,vI 2]),(9,.agg #[.string ⟨#[110,111,116]⟩,.int .u8 9,vI 2]),(10,.agg #[.string ⟨#[122,116,117,114,110]⟩,.int .u8 10,vI 3]),(11,.agg #[.string ⟨#[122,99,111,110,106]⟩,.int .u8 11,vI 3]),(12,.agg #[.string ⟨#[109,111,118]⟩,.int .u8 16,vI 4]),(13,.agg #[.string ⟨#[97,100,100]⟩,.int .u8 17,vI 4]),(14,.agg #[.string ⟨#[115,117,98]⟩,.int .u8 18,vI 4]),(15,.agg #[.string ⟨#[109,117,108]⟩,.int .u8 19,vI 4]),(16,.agg #[.string ⟨#[100,105,118]⟩,.int .u8 20,vI 4]),(17,.agg #[.string ⟨#[97,110,100]⟩,.int .u8 21,vI 4]),(18,.agg #[.string ⟨#[111,114]⟩,.int .u8 22,vI 4]),(19,.agg #[.string ⟨#[120,111,114]⟩,.int .u8 23,vI 4]),(20,.agg #[.string ⟨#[115,104,108]⟩,.int .u8 24,vI 4]),(21,.agg #[.string ⟨#[115,104,114]⟩,.int .u8 25,vI 4]),(22,.agg #[.string ⟨#[108,116]⟩,.int .u8 26,vI 4]),(23,.agg #[.string ⟨#[101,113]⟩,.int .u8 27,vI 4]),(24,.agg #[.string ⟨#[108,100,98]⟩,.int .u8 28,vI 4]),(25,.agg #[.string ⟨#[108,100,119]⟩,.int .u8 29,vI 4]),(26,.agg #[.string ⟨#[108,100,109]⟩,.int .u8 30,vI 4]),(27,.agg #[.string ⟨#[115,116,109]⟩,.int .u8 31,vI 4]),(28,.agg #[.string ⟨#[122,109,111,118]⟩,.int .u8 32,vI 5]),(29,.agg #[.string ⟨#[122,97,100,100]⟩,.int .u8 33,vI 5]),(30,.agg #[.string ⟨#[122,115,117,98]⟩,.int .u8 34,vI 5]),(31,.agg #[.string ⟨#[122,109,117,108]⟩,.int .u8 35,vI 5]),(32,.agg #[.string ⟨#[122,114,101]⟩,.int .u8 36,vI 6]),(33,.agg #[.string ⟨#[122,105,109]⟩,.int .u8 37,vI 6]),(34,.agg #[.string ⟨#[122,115,101,116]⟩,.int .u8 38,vI 7]),(35,.agg #[.string ⟨#[108,105,115]⟩,.int .u8 48,vI 8]),(36,.agg #[.string ⟨#[116,114,97,112]⟩,.int .u8 49,vI 9]),(37,.agg #[.string ⟨#[108,105]⟩,.int .u8 50,vI 10]),(38,.agg #[.string ⟨#[108,100,112]⟩,.int .u8 51,vI 11]),(39,.agg #[.string ⟨#[106,109,112]⟩,.int .u8 64,vI 12]),(40,.agg #[.string ⟨#[99,97,108,108]⟩,.int .u8 67,vI 12]),(41,.agg #[.string ⟨#[106,122]⟩,.int .u8 70,vI 13]),(42,.agg #[.string ⟨#[106,110,122]⟩,.int .u8 73,vI 13])]) false [(false,[.slice 0])] fun a b c =>
 T.ret (.slice a b c)
def rF :bZ Xaz [] Tryz.f49 []=vD :=ax
def iq (a b c d e:Int):T :=
 T.new [vI a,vI b,vI c,.int .i32 d,vI e] 49 fun f =>
 T.af f [.int .i64] fun g =>
 cQ 26 [vI g] fun h =>
 T.join [aQ,aQ]
 (cond (h==2)
 (cond (h==2)
 (T.again 0 [vI 8,vI 0])
 (cond (h==3)
 (T.again 0 [vI 4,vI 0])
 (cond (h==4)
 (T.again 0 [vI 8,vI 8])
 (cond (h==5)
 (T.again 0 [vI 4,vI 4])
 (cond (h==6)
 (T.again 0 [vI 8,vI 4])
 (cond (h==7)
 (T.again 0 [vI 4,vI 8])
 (T.again 0 [vI 0,vI 0])))))))
 (cond (h==8)
 (cond (h==8)
 (T.again 0 [vI 8,vI 0])
 (cond (h==3)
 (T.again 0 [vI 4,vI 0])
 (cond (h==4)
 (T.again 0 [vI 8,vI 8])
 (cond (h==5)
 (T.again 0 [vI 4,vI 4])
 (cond (h==6)
 (T.again 0 [vI 8,vI 4])
 (cond (h==7)
 (T.again 0 [vI 4,vI 8])
 (T.again 0 [vI 0,vI 0])))))))
 (cond (h==10)
 (cond (h==10)
 (T.again 0 [vI 8,vI 0])
 (cond (h==3)
 (T.again 0 [vI 4,vI 0])
 (cond (h==4)
 (T.again 0 [vI 8,vI 8])
 (cond (h==5)
 (T.again 0 [vI 4,vI 4])
 (cond (h==6)
 (T.again 0 [vI 8,vI 4])
 (cond (h==7)
 (T.again 0 [vI 4,vI 8])
 (T.again 0 [vI 0,vI 0])))))))
 (cond (h==11)
 (cond (h==11)
 (T.again 0 [vI 8,vI 0])
 (cond (h==3)
 (T.again 0 [vI 4,vI 0])
 (cond (h==4)
 (T.again 0 [vI 8,vI 8])
 (cond (h==5)
 (T.again 0 [vI 4,vI 4])
 (cond (h==6)
 (T.again 0 [vI 8,vI 4])
 (cond (h==7)
 (T.again 0 [vI 4,vI 8])
 (T.again 0 [vI 0,vI 0])))))))
 (cond (h==13)
 (T.again 0 [vI 8,vI 0])
 (cond (h==3)
 (T.again 0 [vI 4,vI 0])
 (cond (h==4)
 (T.again 0 [vI 8,vI 8])
 (cond (h==5)
 (T.again 0 [vI 4,vI 4])
 (cond (h==6)
 (T.again 0 [vI 8,vI 4])
 (cond (h==7)
 (T.again 0 [vI 4,vI 8])
 (T.again 0 [vI 0,vI 0]))))))))))) fun i j =>
 T.af (f.add 1) [.int .i64] fun k =>
 cond (decide (k<0))
 bz
 (T.af (f.add 2) [.int .i64] fun l =>
 cond (decide (l<0))
 bz
 (T.af (f.add 1) [.int .i64] fun m =>
 cond (decide (m>=i))
 (cond (decide (i>0))
 bz
 (T.af (f.add 1) [.int .i64] fun n =>
 cond (n != 0)
 bz
 (T.af (f.add 2) [.int .i64] fun o =>
 cond (decide (o>=j))
 (cond (decide (j>0))
 bz
 (T.af (f.add 2) [.int .i64] fun p =>
 cond (p != 0)
 bz
 (cond (h != 7)
 ez
 (T.af (f.add 3) [.int .i32] fun q =>
 cond (decide (q>=0))
 (T.af (f.add 3) [.int .i32] fun r =>
 T.ret (.bool (decide (r<=7))))
 bz))))
 (cond (h != 7)
 ez
 (T.af (f.add 3) [.int .i32] fun p =>
 cond (decide (p>=0))
 (T.af (f.add 3) [.int .i32] fun q =>
 T.ret (.bool (decide (q<=7))))
 bz)))))
 (T.af (f.add 2) [.int .i64] fun n =>
 cond (decide (n>=j))
 (cond (decide (j>0))
 bz
 (T.af (f.add 2) [.int .i64] fun o =>
 cond (o != 0)
 bz
 (cond (h != 7)
 ez
 (T.af (f.add 3) [.int .i32] fun p =>
 cond (decide (p>=0))
 (T.af (f.add 3) [.int .i32] fun q =>
 T.ret (.bool (decide (q<=7))))
 bz))))
 (cond (h != 7)
 ez
 (T.af (f.add 3) [.int .i32] fun o =>
 cond (decide (o>=0))
 (T.af (f.add 3) [.int .i32] fun p =>
 T.ret (.bool (decide (p<=7))))
 bz)))))
def lL (a b c d e:Int):bZ Xaz [1025] Tryz.f150 [.agg #[vI a,vI b,vI c,.int .i32 d,vI e]]=iq a b c d e:=ax
def iQ (a:Int) (b:Xaa) (c d e f g:Int) (h:Xac) (i j:Nat) (k l:Int):T :=
 T.new [vI a,.string b,vI c,vI d,vI e,.int .i32 f,vI g,.slice h i j,aF k,vI l] 55 fun m =>
 T.join [cn]
 (T.af m [.int .i64] fun n =>
 cond (n==1)
 (T.af (m.add 1) [.string] fun o =>
 aZ 78 [.string o] fun p =>
 cond p
 (T.af m (yI 64) fun q r s t u v w x y z A B =>
 aZ 124 [.agg #[vI q,.string r,vI s,vI t,vI u,.int .i32 v,vI w,.slice x y z,aF A,vI B],.bool false,.bool true,.bool true,.bool true] fun C =>
 T.again 0 [.bool C])
 (T.again 0 [.bool false]))
 (cond (n==2)
 (T.af (m.add 2) [.int .i64,.int .i64,.int .i64,.int .i32,.int .i64] fun o p q r s =>
 T.new [vI 0,vI 0,vI 0,.int .i32 0,vI 0] 49 fun t =>
 T.aD t [vI o,vI p,vI q,.int .i32 r,vI s] <|
 T.af (t.add 4) [.int .i64] fun u =>
 T.join []
 (T.af t [.int .i64] fun v =>
 aZ 125 [vI v] fun w =>
 cond w
 (T.aD (t.add 4) [vI 1] <|
 T.again 1 [])
 (T.again 1 [])) <| T.join [cn]
 (cond (u==0)
 (T.af t [.int .i64,.int .i64,.int .i64,.int .i32,.int .i64] fun v w x y z =>
 cQ 126 [.agg #[vI v,vI w,vI x,.int .i32 y,vI z]] fun A =>
 cond (A==0)
 (T.af m (yI 64) fun B C D E F G H I J K L M =>
 aZ 124 [.agg #[vI B,.string C,vI D,vI E,vI F,.int .i32 G,vI H,.slice I J K,aF L,vI M],.bool true,.bool false,.bool false,.bool true] fun N =>
 T.again 1 [.bool N])
 (T.again 1 [.bool false]))
 (T.again 1 [.bool false])) fun v =>
 T.af t [.int .i64] fun w =>
 aZ 127 [vI w] fun x =>
 cond x
 (cond v
 (T.af (t.add 3) [.int .i32] fun y =>
 cond (y==0)
 (T.af (m.add 7) (yL 64) fun z A B C =>
 aZ 97 [.agg #[.slice z A B,aF C]] fun D =>
 T.again 0 [.bool D])
 (T.again 0 [.bool false]))
 (T.again 0 [.bool false]))
 (cond v
 (T.af m (yI 64) fun y z A B C D E F G H I J =>
 aZ 124 [.agg #[vI y,.string z,vI A,vI B,vI C,.int .i32 D,vI E,.slice F G H,aF I,vI J],.bool false,.bool false,.bool true,.bool false] fun K =>
 T.again 0 [.bool K])
 (T.again 0 [.bool false])))
 (cond (n==3)
 (T.af (m.add 9) [.int .i64] fun o =>
 aZ 128 [vI o] fun p =>
 cond p
 (T.af m (yI 64) fun q r s t u v w x y z A B =>
 aZ 124 [.agg #[vI q,.string r,vI s,vI t,vI u,.int .i32 v,vI w,.slice x y z,aF A,vI B],.bool true,.bool true,.bool true,.bool false] fun C =>
 T.again 0 [.bool C])
 (T.again 0 [.bool false]))
 (cond (n==4)
 (T.af m (yI 64) fun o p q r s t u v w x y z =>
 aZ 124 [.agg #[vI o,.string p,vI q,vI r,vI s,.int .i32 t,vI u,.slice v w x,aF y,vI z],.bool true,.bool true,.bool true,.bool true] fun A =>
 T.again 0 [.bool A])
 (cond (n==5)
 (T.again 0 [.bool false])
 (cond (n==6)
 (T.again 0 [.bool false])
 (cond (n==7)
 (T.again 0 [.bool false])
 (T.again 0 [.bool false])))))))) fun n =>
 cond (!n)
 (T.ret (vI 31))
 (T.ret (vI 0))
def ni (a:Int) (b:Xaa) (c d e f g:Int) (h:Xac) (i j:Nat) (k l:Int):bZ Xaz [1012,1013,1026] Tryz.f96 [.agg #[vI a,.string b,vI c,vI d,vI e,.int .i32 f,vI g,.slice h i j,.int .u32 k,vI l],vI 0]=iQ a b c d e f g h i j k l:=ax
def iR (a:Int) (b:Xaa) (c d e f g:Int) (h:Xac) (i j:Nat) (k l:Int):T :=
 T.new [vI a,.string b,vI c,vI d,vI e,.int .i32 f,vI g,.slice h i j,aF k,vI l] 55 fun m =>
 T.join [cn]
 (T.af m [.int .i64] fun n =>
 cond (n==1)
 (T.af (m.add 1) [.string] fun o =>
 aZ 78 [.string o] fun p =>
 cond p
 (T.af m (yI 64) fun q r s t u v w x y z A B =>
 aZ 124 [.agg #[vI q,.string r,vI s,vI t,vI u,.int .i32 v,vI w,.slice x y z,aF A,vI B],.bool false,.bool true,.bool true,.bool true] fun C =>
 T.again 0 [.bool C])
 (T.again 0 [.bool false]))
 (cond (n==2)
 (T.af (m.add 2) [.int .i64,.int .i64,.int .i64,.int .i32,.int .i64] fun o p q r s =>
 T.new [vI 0,vI 0,vI 0,.int .i32 0,vI 0] 49 fun t =>
 T.aD t [vI o,vI p,vI q,.int .i32 r,vI s] <|
 T.af (t.add 4) [.int .i64] fun u =>
 T.join []
 (T.af t [.int .i64] fun v =>
 aZ 125 [vI v] fun w =>
 cond w
 (T.aD (t.add 4) [vI 1] <|
 T.again 1 [])
 (T.again 1 [])) <| T.join [cn]
 (T.again 1 [.bool false]) fun v =>
 T.af t [.int .i64] fun w =>
 aZ 127 [vI w] fun x =>
 cond x
 (cond v
 (T.af (t.add 3) [.int .i32] fun y =>
 cond (y==0)
 (T.af (m.add 7) (yL 64) fun z A B C =>
 aZ 97 [.agg #[.slice z A B,aF C]] fun D =>
 T.again 0 [.bool D])
 (T.again 0 [.bool false]))
 (T.again 0 [.bool false]))
 (cond v
 (T.af m (yI 64) fun y z A B C D E F G H I J =>
 aZ 124 [.agg #[vI y,.string z,vI A,vI B,vI C,.int .i32 D,vI E,.slice F G H,aF I,vI J],.bool false,.bool false,.bool true,.bool false] fun K =>
 T.again 0 [.bool K])
 (T.again 0 [.bool false])))
 (cond (n==3)
 (T.af (m.add 9) [.int .i64] fun o =>
 aZ 128 [vI o] fun p =>
 cond p
 (T.af m (yI 64) fun q r s t u v w x y z A B =>
 aZ 124 [.agg #[vI q,.string r,vI s,vI t,vI u,.int .i32 v,vI w,.slice x y z,aF A,vI B],.bool true,.bool true,.bool true,.bool false] fun C =>
 T.again 0 [.bool C])
 (T.again 0 [.bool false]))
 (cond (n==4)
 (T.again 0 [.bool false])
 (cond (n==5)
 (T.af (m.add 9) [.int .i64] fun o =>
 cond (decide (o>=(-128)))
 (T.af (m.add 9) [.int .i64] fun p =>
 cond (decide (p<=255))
 (T.af m (yI 64) fun q r s t u v w x y z A B =>
 aZ 124 [.agg #[vI q,.string r,vI s,vI t,vI u,.int .i32 v,vI w,.slice x y z,aF A,vI B],.bool true,.bool true,.bool true,.bool false] fun C =>
 T.again 0 [.bool C])
 (T.again 0 [.bool false]))
 (T.again 0 [.bool false]))
 (cond (n==6)
 (T.af (m.add 7) (yL 64) fun o p q r =>
 aZ 97 [.agg #[.slice o p q,aF r]] fun s =>
 cond s
 (T.af m (yI 64) fun t u v w x y z A B C D E =>
 aZ 124 [.agg #[vI t,.string u,vI v,vI w,vI x,.int .i32 y,vI z,.slice A B C,aF D,vI E],.bool true,.bool true,.bool false,.bool true] fun F =>
 T.again 0 [.bool F])
 (T.again 0 [.bool false]))
 (cond (n==7)
 (T.af (m.add 9) [.int .i64] fun o =>
 cond (decide (o>=0))
 (T.af (m.add 9) [.int .i64] fun p =>
 cond (decide (p<=1048576))
 (T.af m (yI 64) fun q r s t u v w x y z A B =>
 aZ 124 [.agg #[vI q,.string r,vI s,vI t,vI u,.int .i32 v,vI w,.slice x y z,aF A,vI B],.bool true,.bool true,.bool true,.bool false] fun C =>
 T.again 0 [.bool C])
 (T.again 0 [.bool false]))
 (T.again 0 [.bool false]))
 (T.again 0 [.bool false])))))))) fun n =>
 cond (!n)
 (T.ret (vI 31))
 (T.ret (vI 0))
def lY (a:Int) (b:Xaa) (c d e f g:Int) (h:Xac) (i j:Nat) (k l:Int):bZ Xaz [1012,1013,1026] Tryz.f96 [.agg #[vI a,.string b,vI c,vI d,vI e,.int .i32 f,vI g,.slice h i j,.int .u32 k,vI l],vI 1]=iR a b c d e f g h i j k l:=ax
end Go.Sx
