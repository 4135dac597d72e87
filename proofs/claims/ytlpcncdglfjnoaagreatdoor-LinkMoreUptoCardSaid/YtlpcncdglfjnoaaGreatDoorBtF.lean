/- Trees of functions, each checked by the kernel against the code. No condition. -/
import Derived.Test.YtlpcncdglfjnoaaGreatDoorSxF
import Derived.Test.YtlpcncdglfjnoaaGreatDoorProg
import Derived.KernelRfl
set_option linter.all false
set_option maxRecDepth 100000
set_option maxHeartbeats 4000000
namespace Go.Sx
open Go.Proofs
def gW (a:Int) (b:ZA) (c:Int) (d:Int) (e:Int) (f:Int) (g:Int) (h:Option ZC) (i j:Nat) (k:Int) (l:Int) (m:Int) (n:ZA) (o:Int) (p:Int) (q:Int) (r:Int) (s:Int) (t:Option ZC) (u v:Nat) (w:Int) (x:Int):T :=
 T.new [vI a,.string b,vI c,vI d,vI e,.int .i32 f,vI g,.slice h i j,.int .u32 k,vI l] 64 fun y =>
 T.new [vI m,.string n,vI o,vI p,vI q,.int .i32 r,vI s,.slice t u v,.int .u32 w,vI x] 64 fun z =>
 T.ah y [.int .i64] fun A =>
 T.ah z [.int .i64] fun B =>
 cond (A==B)
 (T.ah (y.add 1) [.string] fun C =>
 T.ah (z.add 1) [.string] fun D =>
 cond ((ByteArray.toList C)==(ByteArray.toList D))
 (T.ah (y.add 2) [.int .i64,.int .i64,.int .i64,.int .i32,.int .i64] fun E F G H I =>
 T.ah (z.add 2) [.int .i64,.int .i64,.int .i64,.int .i32,.int .i64] fun J K L M N =>
 dQ (Sx.iF (BinOp.eql) 62 (Operand.tmp 19) (Operand.tmp 21) (.agg #[vI E,vI F,vI G,.int .i32 H,vI I]) (.agg #[vI J,vI K,vI L,.int .i32 M,vI N])) fun O =>
 cond O
 (T.ah (y.add 7) [.slice 66,.int .u32] fun P Q R S =>
 T.ah (z.add 7) [.slice 66,.int .u32] fun U V W X =>
 aU 88 [.agg #[.slice P Q R,.int .u32 S],.agg #[.slice U V W,.int .u32 X]] fun Y =>
 cond Y
 (T.ah (y.add 9) [.int .i64] fun Z =>
 T.ah (z.add 9) [.int .i64] fun a0 =>
 T.ret (.bool (Z==a0)))
 bt)
 bt)
 bt)
 bt
theorem ld (a:Int) (b:ZA) (c:Int) (d:Int) (e:Int) (f:Int) (g:Int) (h:Option ZC) (i j:Nat) (k:Int) (l:Int) (m:Int) (n:ZA) (o:Int) (p:Int) (q:Int) (r:Int) (s:Int) (t:Option ZC) (u v:Nat) (w:Int) (x:Int):bI Tryz.prog [] Tryz.f51 [.agg #[vI a,.string b,vI c,vI d,vI e,.int .i32 f,vI g,.slice h i j,.int .u32 k,vI l],.agg #[vI m,.string n,vI o,vI p,vI q,.int .i32 r,vI s,.slice t u v,.int .u32 w,vI x]]=gW a b c d e f g h i j k l m n o p q r s t u v w x:=ax
def mn (a:Option ZC) (b c:Nat) (d:Option ZC) (e f:Nat):T :=
 cond ((b:Int) != (e:Int))
 (T.ret (.bool false))
 (T.loop [(false,[.bool]),(false,[.int .i64])] [.bool false,vI 0] fun g h =>
 cond (decide (h<(b:Int)))
 (T.need (((0:Int)<=h)/\(h<(b:Int))) <|
 T.bk a fun i =>
 T.ah (i.add ((Int.toNat h)*10)) [.int .i64,.string,.int .i64,.int .i64,.int .i64,.int .i32,.int .i64,.slice 66,.int .u32,.int .i64] fun j k l m n o p q r s t u =>
 T.need (((0:Int)<=h)/\(h<(e:Int))) <|
 T.bk d fun v =>
 T.ah (v.add ((Int.toNat h)*10)) [.int .i64,.string,.int .i64,.int .i64,.int .i64,.int .i32,.int .i64,.slice 66,.int .u32,.int .i64] fun w x y z A B C D E F G H =>
 T.call Tryz.prog 51 [.agg #[vI j,.string k,vI l,vI m,vI n,.int .i32 o,vI p,.slice q r s,.int .u32 t,vI u],.agg #[vI w,.string x,vI y,vI z,vI A,.int .i32 B,vI C,.slice D E F,.int .u32 G,vI H]] false [(false,[.bool])] fun I =>
 cond (!I)
 (T.ret (.bool false))
 (T.again 0 [.bool g,vI (IntKind.wrap .i64 (h+(1:Int)))]))
 (T.ret (.bool true)))
theorem kf (a:Option ZC) (b c:Nat) (d:Option ZC) (e f:Nat):bI Tryz.prog [] Tryz.f15 [.slice a b c,.slice d e f]=mn a b c d e f:=ax
def jD (a:Option ZC) (b c:Nat):T :=
 T.loop [cd,aM,aM] [.bool false,vI 0,vI 0] fun d e f =>
 bq f b
 (cond (decide (f<(65:Int)))
 (aZ f b a fun g =>
 T.ah (g.add (aK f 4)) [.slice 64] fun h i j =>
 cond (decide ((i:Int)>(600:Int)))
 dH
 (aZ f b a fun k =>
 T.ah ((k.add (aK f 4)).add 1) [.slice 64] fun l m n =>
 cond (decide ((m:Int)>(300:Int)))
 dH
 (aZ f b a fun o =>
 T.ah ((o.add (aK f 4)).add 2) [.slice 88] fun p q r =>
 cond (decide ((q:Int)>(100:Int)))
 dH
 (aZ f b a fun s =>
 T.ah (s.add (aK f 4)) [.slice 64] fun t u v =>
 aZ f b a fun w =>
 T.ah ((w.add (aK f 4)).add 1) [.slice 64] fun x y z =>
 aZ f b a fun A =>
 T.ah ((A.add (aK f 4)).add 2) [.slice 88] fun B C D =>
 T.again 0 [.bool d,vI (bi ((bi ((bi (e+(u:Int)))+(y:Int)))+(C:Int))),bg f]))))
 (T.ret (.bool (decide (e>(900:Int))))))
 (T.ret (.bool (decide (e>(900:Int)))))
theorem nh (a:Option ZC) (b c:Nat):bI Tryz.prog [] Tryz.f8 [.slice a b c]=jD a b c:=ax
def jL (a:Int):T :=
 bG 117 [] false [(false,[.slice 188])] fun b c d =>
 cond (decide (a<(1:Int)))
 (T.ret (vI 0))
 (cond (decide (a>(c:Int)))
 (T.ret (vI 0))
 (T.need (((0:Int)<=(bi (a-(1:Int))))/\((bi (a-(1:Int)))<(c:Int))) <|
 T.bk b fun e =>
 T.ah ((e.add ((Int.toNat (bi (a-(1:Int))))*3)).add 2) [.int .i64] fun f =>
 T.ret (vI f)))
theorem nS (a:Int):bI Tryz.prog [] Tryz.f96 [vI a]=jL a:=ax
def js (a:Int):T :=
 cD 96 [vI a] fun b =>
 cond (b==(12:Int))
 dH
 (cD 96 [vI a] fun c =>
 T.ret (.bool (c==(13:Int))))
theorem om (a:Int):bI Tryz.prog [] Tryz.f71 [vI a]=js a:=ax
def kb (a:Int) (b:Int):T :=
 cond (b==(1:Int))
 (cond (decide (a>=(-128:Int)))
 (T.ret (.bool (decide (a<=(127:Int)))))
 bt)
 (cond (b==(2:Int))
 (cond (decide (a>=(-32768:Int)))
 (T.ret (.bool (decide (a<=(32767:Int)))))
 bt)
 (cond (b==(4:Int))
 dH
 bt))
theorem oK (a:Int) (b:Int):bI Tryz.prog [] Tryz.f98 [.int .i32 a,vI b]=kb a b:=ax
def jJ (a:Int) (b:Int) (c:Int) (d:Int) (e:Int):T :=
 T.new [vI a,vI b,vI c,.int .i32 d,vI e] 62 fun f =>
 T.ah f [.int .i64] fun g =>
 cD 96 [vI g] fun h =>
 cond (h==(0:Int))
 (T.ret (vI 11))
 (T.ah f [.int .i64,.int .i64,.int .i64,.int .i32,.int .i64] fun i j k l m =>
 aU 97 [.agg #[vI i,vI j,vI k,.int .i32 l,vI m]] fun n =>
 cond (!n)
 (T.ret (vI 12))
 (cond (h==(12:Int))
 (T.ah (f.add 4) [.int .i64] fun o =>
 cond (o != (1:Int))
 (T.ah (f.add 4) [.int .i64] fun p =>
 cond (p != (2:Int))
 (T.ah (f.add 4) [.int .i64] fun q =>
 cond (q != (4:Int))
 (T.ret (vI 13))
 (T.ah (f.add 3) [.int .i32] fun r =>
 T.ah (f.add 4) [.int .i64] fun s =>
 aU 98 [.int .i32 r,vI s] fun t =>
 cond (!t)
 (T.ret (vI 13))
 (T.ret (vI 0))))
 (T.ah (f.add 3) [.int .i32] fun q =>
 T.ah (f.add 4) [.int .i64] fun r =>
 aU 98 [.int .i32 q,vI r] fun s =>
 cond (!s)
 (T.ret (vI 13))
 (T.ret (vI 0))))
 (T.ah (f.add 3) [.int .i32] fun p =>
 T.ah (f.add 4) [.int .i64] fun q =>
 aU 98 [.int .i32 p,vI q] fun r =>
 cond (!r)
 (T.ret (vI 13))
 (T.ret (vI 0))))
 (cond (h==(13:Int))
 (T.ah (f.add 4) [.int .i64] fun o =>
 cond (o != (1:Int))
 (T.ah (f.add 4) [.int .i64] fun p =>
 cond (p != (2:Int))
 (T.ah (f.add 4) [.int .i64] fun q =>
 cond (q != (4:Int))
 (T.ret (vI 13))
 (T.ah (f.add 3) [.int .i32] fun r =>
 T.ah (f.add 4) [.int .i64] fun s =>
 aU 98 [.int .i32 r,vI s] fun t =>
 cond (!t)
 (T.ret (vI 13))
 (T.ret (vI 0))))
 (T.ah (f.add 3) [.int .i32] fun q =>
 T.ah (f.add 4) [.int .i64] fun r =>
 aU 98 [.int .i32 q,vI r] fun s =>
 cond (!s)
 (T.ret (vI 13))
 (T.ret (vI 0))))
 (T.ah (f.add 3) [.int .i32] fun p =>
 T.ah (f.add 4) [.int .i64] fun q =>
 aU 98 [.int .i32 p,vI q] fun r =>
 cond (!r)
 (T.ret (vI 13))
 (T.ret (vI 0))))
 (T.ah (f.add 4) [.int .i64] fun o =>
 cond (o != (0:Int))
 (T.ret (vI 13))
 (T.ah (f.add 3) [.int .i32] fun p =>
 cond (h==(8:Int))
 (T.ah (f.add 3) [.int .i32] fun q =>
 cond (decide (q>=(-128:Int)))
 (T.ah (f.add 3) [.int .i32] fun r =>
 cond (!(decide (r<=(127:Int))))
 (T.ret (vI 13))
 (T.ret (vI 0)))
 (T.ret (vI 13)))
 (cond (h==(9:Int))
 (T.ah (f.add 3) [.int .i32] fun q =>
 cond (decide (q>=(0:Int)))
 (T.ah (f.add 3) [.int .i32] fun r =>
 cond (!(decide (r<=(255:Int))))
 (T.ret (vI 13))
 (T.ret (vI 0)))
 (T.ret (vI 13)))
 (cond (h==(11:Int))
 (T.ah (f.add 3) [.int .i32] fun q =>
 cond (decide (q>=(0:Int)))
 (T.ah (f.add 3) [.int .i32] fun r =>
 cond (!(decide (r<=(4095:Int))))
 (T.ret (vI 13))
 (T.ret (vI 0)))
 (T.ret (vI 13)))
 (cond (h==(10:Int))
 (cond (h==(10:Int))
 (T.ret (vI 0))
 (cond (!(p==(0:Int)))
 (T.ret (vI 13))
 (T.ret (vI 0))))
 (cond (h==(7:Int))
 (T.ret (vI 0))
 (cond (!(p==(0:Int)))
 (T.ret (vI 13))
 (T.ret (vI 0))))))))))))
theorem nG (a:Int) (b:Int) (c:Int) (d:Int) (e:Int):bI Tryz.prog [] Tryz.f72 [.agg #[vI a,vI b,vI c,.int .i32 d,vI e]]=jJ a b c d e:=ax
def jX (a:Int):T :=
 cD 96 [vI a] fun b =>
 cond (b==(10:Int))
 dH
 (cond (b==(11:Int))
 dH
 (cond (b==(12:Int))
 dH
 (T.ret (.bool (b==(13:Int))))))
theorem pu (a:Int):bI Tryz.prog [] Tryz.f73 [vI a]=jX a:=ax
def j2 (a:Int) (b:ZA) (c:Int) (d:Int) (e:Int) (f:Int) (g:Int) (h:Option ZC) (i j:Nat) (k:Int) (l:Int) (m:Bool) (n:Bool) (o:Bool) (p:Bool):T :=
 T.new [vI a,.string b,vI c,vI d,vI e,.int .i32 f,vI g,.slice h i j,.int .u32 k,vI l] 64 fun q =>
 cond (!m)
 (cond (!n)
 (cond (!o)
 (cond (!p)
 dH
 (T.ah (q.add 9) [.int .i64] fun r =>
 T.ret (.bool (r==(0:Int)))))
 (T.ah (q.add 7) [.slice 66] fun r s t =>
 cond ((s:Int)==(0:Int))
 (T.ah ((q.add 7).add 1) [.int .u32] fun u =>
 cond (u==(0:Int))
 (cond (!p)
 dH
 (T.ah (q.add 9) [.int .i64] fun v =>
 T.ret (.bool (v==(0:Int)))))
 bt)
 bt))
 (T.ah (q.add 2) [.int .i64,.int .i64,.int .i64,.int .i32,.int .i64] fun r s t u v =>
 dQ (Sx.iF (BinOp.eql) 62 (Operand.tmp 23) (Operand.tmp 24) (.agg #[vI r,vI s,vI t,.int .i32 u,vI v]) (.agg #[vI 0,vI 0,vI 0,.int .i32 0,vI 0])) fun w =>
 cond w
 (cond (!o)
 (cond (!p)
 dH
 (T.ah (q.add 9) [.int .i64] fun x =>
 T.ret (.bool (x==(0:Int)))))
 (T.ah (q.add 7) [.slice 66] fun x y z =>
 cond ((y:Int)==(0:Int))
 (T.ah ((q.add 7).add 1) [.int .u32] fun A =>
 cond (A==(0:Int))
 (cond (!p)
 dH
 (T.ah (q.add 9) [.int .i64] fun B =>
 T.ret (.bool (B==(0:Int)))))
 bt)
 bt))
 bt))
 (T.ah (q.add 1) [.string] fun r =>
 cond ((ByteArray.toList r)==[])
 (cond (!n)
 (cond (!o)
 (cond (!p)
 dH
 (T.ah (q.add 9) [.int .i64] fun s =>
 T.ret (.bool (s==(0:Int)))))
 (T.ah (q.add 7) [.slice 66] fun s t u =>
 cond ((t:Int)==(0:Int))
 (T.ah ((q.add 7).add 1) [.int .u32] fun v =>
 cond (v==(0:Int))
 (cond (!p)
 dH
 (T.ah (q.add 9) [.int .i64] fun w =>
 T.ret (.bool (w==(0:Int)))))
 bt)
 bt))
 (T.ah (q.add 2) [.int .i64,.int .i64,.int .i64,.int .i32,.int .i64] fun s t u v w =>
 dQ (Sx.iF (BinOp.eql) 62 (Operand.tmp 23) (Operand.tmp 24) (.agg #[vI s,vI t,vI u,.int .i32 v,vI w]) (.agg #[vI 0,vI 0,vI 0,.int .i32 0,vI 0])) fun x =>
 cond x
 (cond (!o)
 (cond (!p)
 dH
 (T.ah (q.add 9) [.int .i64] fun y =>
 T.ret (.bool (y==(0:Int)))))
 (T.ah (q.add 7) [.slice 66] fun y z A =>
 cond ((z:Int)==(0:Int))
 (T.ah ((q.add 7).add 1) [.int .u32] fun B =>
 cond (B==(0:Int))
 (cond (!p)
 dH
 (T.ah (q.add 9) [.int .i64] fun C =>
 T.ret (.bool (C==(0:Int)))))
 bt)
 bt))
 bt))
 bt)
theorem o7 (a:Int) (b:ZA) (c:Int) (d:Int) (e:Int) (f:Int) (g:Int) (h:Option ZC) (i j:Nat) (k:Int) (l:Int) (m:Bool) (n:Bool) (o:Bool) (p:Bool):bI Tryz.prog [] Tryz.f70 [.agg #[vI a,.string b,vI c,vI d,vI e,.int .i32 f,vI g,.slice h i j,.int .u32 k,vI l],.bool m,.bool n,.bool o,.bool p]=j2 a b c d e f g h i j k l m n o p:=ax
def jK (a:Int):T :=
 T.loop [cd,aM] [.bool false,vI 1] fun b c =>
 cond (decide (c<=(256:Int)))
 (cond (a==c)
 dH
 (T.again 0 [.bool b,vI (bi ((2:Int)*c))]))
 bt
theorem nt (a:Int):bI Tryz.prog [] Tryz.f74 [vI a]=jK a:=ax
def kT (a:Option ZC) (b c:Nat) (d:Option ZC) (e f:Nat) (g:Option ZC) (h i:Nat) (j:Option ZC) (k l:Nat):T :=
 T.new [.slice a b c,.slice d e f,.slice g h i,.slice j k l] 30 fun m =>
 T.ah m [.slice 64] fun n o p =>
 T.ah (m.add 1) [.slice 64] fun q r s =>
 bG 39 [.slice n o p] false [(false,[.slice 9])] fun t u v =>
 T.bf [((m.add 1),[.slice q r s])] <|
 bG 39 [.slice q r s] false [(false,[.slice 9])] fun w x y =>
 T.bf [(m,[.slice n o p])] <|
 bh (Builtin.append_ #[28,28] 28 #[.slice t u v,.slice w x y]) fun z A B =>
 T.bf [((m.add 1),[.slice q r s]),(m,[.slice n o p])] <|
 T.loop [db,aM] [.slice z A B,vI 0] fun C D E F =>
 T.ah (m.add 2) [.slice 88] fun G H I =>
 bq F H
 (T.ah (m.add 2) [.slice 88] fun J K L =>
 aZ F K J fun M =>
 T.ah (M.add (aK F 3)) [.string] fun N =>
 bh (Instr.buildSlice 28 1 #[(0,.string N)]) fun O P Q =>
 bh (Builtin.append_ #[28,28] 28 #[.slice C D E,.slice O P Q]) fun R S U =>
 T.again 0 [.slice R S U,bg F])
 (T.ret (.slice C D E))
theorem pX (a:Option ZC) (b c:Nat) (d:Option ZC) (e f:Nat) (g:Option ZC) (h i:Nat) (j:Option ZC) (k l:Nat):bI Tryz.prog [] Tryz.f11 [.agg #[.slice a b c,.slice d e f,.slice g h i,.slice j k l]]=kT a b c d e f g h i j k l:=ax
def iN (a:Option ZC) (b c:Nat):T :=
 T.loop [db,aM] [bd,vI 0] fun d e f g =>
 bq g b
 (aZ g b a fun h =>
 T.ah (h.add (aK g 1)) [.string] fun i =>
 aU 38 [.slice d e f,.string i] fun j =>
 cond j
 (T.again 0 [.slice d e f,bg g])
 (aZ g b a fun k =>
 T.ah (k.add (aK g 1)) [.string] fun l =>
 bh (Instr.buildSlice 28 1 #[(0,.string l)]) fun m n o =>
 bh (Builtin.append_ #[28,28] 28 #[.slice d e f,.slice m n o]) fun p q r =>
 T.loop [aM] [vI (e:Int)] fun s =>
 cond (decide (s>(0:Int)))
 (T.need (((0:Int)<=(bi (s-(1:Int))))/\((bi (s-(1:Int)))<(q:Int))) <|
 T.bk p fun t =>
 T.ah (t.add ((Int.toNat (bi (s-(1:Int))))*1)) [.string] fun u =>
 aZ g b a fun v =>
 T.ah (v.add (aK g 1)) [.string] fun w =>
 cond (!((Op.bytesLess (ByteArray.toList u) (ByteArray.toList w)) || ((ByteArray.toList u)==(ByteArray.toList w))))
 (T.need (((0:Int)<=(bi (s-(1:Int))))/\((bi (s-(1:Int)))<(q:Int))) <|
 T.bk p fun x =>
 T.ah (x.add ((Int.toNat (bi (s-(1:Int))))*1)) [.string] fun y =>
 aZ s q p fun z =>
 T.aC (z.add (aK s 1)) [.string y] <|
 T.again 1 [vI (bi (s-(1:Int)))])
 (aZ g b a fun x =>
 T.ah (x.add (aK g 1)) [.string] fun y =>
 aZ s q p fun z =>
 T.aC (z.add (aK s 1)) [.string y] <|
 T.again 0 [.slice p q r,bg g]))
 (aZ g b a fun t =>
 T.ah (t.add (aK g 1)) [.string] fun u =>
 aZ s q p fun v =>
 T.aC (v.add (aK s 1)) [.string u] <|
 T.again 0 [.slice p q r,bg g])))
 (T.ret (.slice d e f))
theorem mP (a:Option ZC) (b c:Nat):bI Tryz.prog [] Tryz.f37 [.slice a b c]=iN a b c:=ax
def gJ (a:Option ZC) (b c:Nat) (d:ZA):T :=
 T.loop [cd,aM] [.bool false,vI 0] fun e f =>
 bq f b
 (aZ f b a fun g =>
 T.ah (g.add (aK f 1)) [.string] fun h =>
 cond ((ByteArray.toList h)==(ByteArray.toList d))
 dH
 (T.again 0 [.bool e,bg f]))
 bt
theorem iU (a:Option ZC) (b c:Nat) (d:ZA):bI Tryz.prog [] Tryz.f38 [.slice a b c,.string d]=gJ a b c d:=ax
def iX (a:Option ZC) (b c:Nat):T :=
 T.loop [db,aM] [bd,vI 0] fun d e f g =>
 bq g b
 (aZ g b a fun h =>
 T.ah (h.add (aK g 10)) [.int .i64] fun i =>
 cond (i==(1:Int))
 (aZ g b a fun j =>
 T.ah ((j.add (aK g 10)).add 1) [.string] fun k =>
 bh (Instr.buildSlice 28 1 #[(0,.string k)]) fun l m n =>
 bh (Builtin.append_ #[28,28] 28 #[.slice d e f,.slice l m n]) fun o p q =>
 T.again 0 [.slice o p q,bg g])
 (T.again 0 [.slice d e f,bg g]))
 (T.ret (.slice d e f))
theorem mJ (a:Option ZC) (b c:Nat):bI Tryz.prog [] Tryz.f39 [.slice a b c]=iX a b c:=ax
def jt (a:Option ZC) (b c:Nat) (d:Option ZC) (e f:Nat) (g:Option ZC) (h i:Nat) (j:Option ZC) (k l:Nat):T :=
 T.new [.slice a b c,.slice d e f,.slice g h i,.slice j k l] 30 fun m =>
 T.ah m [.slice 64] fun n o p =>
 T.ah (m.add 1) [.slice 64] fun q r s =>
 cond (decide ((bi ((o:Int)+(r:Int)))>(8192:Int)))
 (T.ret (vI 4))
 (T.ah (m.add 2) [.slice 88] fun t u v =>
 cond (decide ((u:Int)>(8192:Int)))
 (T.ret (vI 4))
 (T.loop [aM,aM] [vI 0,vI 0] fun w x =>
 T.ah m [.slice 64] fun y z A =>
 bq x z
 (T.ah m [.slice 64] fun B C D =>
 aZ x C B fun E =>
 T.ah (E.add (aK x 10)) [.int .i64,.string,.int .i64,.int .i64,.int .i64,.int .i32,.int .i64,.slice 66,.int .u32,.int .i64] fun F G H I J K L M N O P Q =>
 cD 34 [.agg #[vI F,.string G,vI H,vI I,vI J,.int .i32 K,vI L,.slice M N O,.int .u32 P,vI Q],vI 0] fun R =>
 cond (R != (0:Int))
 (T.ret (vI 31))
 (T.again 0 [vI w,bg x]))
 (T.loop [aM,aM] [vI w,vI 0] fun B C =>
 T.ah (m.add 1) [.slice 64] fun D E F =>
 bq C E
 (T.ah (m.add 1) [.slice 64] fun G H I =>
 aZ C H G fun J =>
 T.ah (J.add (aK C 10)) [.int .i64,.string,.int .i64,.int .i64,.int .i64,.int .i32,.int .i64,.slice 66,.int .u32,.int .i64] fun K L M N O P Q R S U V W =>
 cD 34 [.agg #[vI K,.string L,vI M,vI N,vI O,.int .i32 P,vI Q,.slice R S U,.int .u32 V,vI W],vI 1] fun X =>
 cond (X != (0:Int))
 (T.ret (vI 31))
 (T.again 1 [vI B,bg C]))
 (T.loop [aM,aM] [vI B,vI 0] fun G H =>
 T.ah (m.add 2) [.slice 88] fun I J K =>
 bq H J
 (T.ah (m.add 2) [.slice 88] fun L M N =>
 aZ H M L fun O =>
 T.ah (O.add (aK H 3)) [.string] fun P =>
 aU 35 [.string P] fun Q =>
 cond (!Q)
 (T.ret (vI 31))
 (T.ah (m.add 2) [.slice 88] fun R S U =>
 aZ H S R fun V =>
 T.ah ((V.add (aK H 3)).add 1) [.slice 66,.int .u32] fun W X Y Z =>
 aU 36 [.agg #[.slice W X Y,.int .u32 Z]] fun a0 =>
 cond (!a0)
 (T.ret (vI 31))
 (T.again 2 [vI G,bg H])))
 (T.ah m [.slice 64,.slice 64,.slice 88,.slice 9] fun L M N O P Q R S U V W X =>
 bG 11 [.agg #[.slice L M N,.slice O P Q,.slice R S U,.slice V W X]] false [(false,[.slice 9])] fun Y Z a0 =>
 bG 37 [.slice Y Z a0] false [(false,[.slice 9])] fun a1 a2 a3 =>
 cond ((a2:Int) != (Z:Int))
 (T.ret (vI 31))
 (T.loop [aM,aM] [vI G,vI 0] fun a4 a5 =>
 T.ah (m.add 3) [.slice 9] fun a6 a7 a8 =>
 bq a5 a7
 (cond (decide (a5>(0:Int)))
 (T.ah (m.add 3) [.slice 9] fun a9 b0 b1 =>
 aZ a5 b0 a9 fun b2 =>
 T.ah (b2.add (aK a5 1)) [.string] fun b3 =>
 T.ah (m.add 3) [.slice 9] fun b4 b5 b6 =>
 T.need (((0:Int)<=(bi (a5-(1:Int))))/\((bi (a5-(1:Int)))<(b5:Int))) <|
 T.bk b4 fun b7 =>
 T.ah (b7.add ((Int.toNat (bi (a5-(1:Int))))*1)) [.string] fun b8 =>
 cond ((Op.bytesLess (ByteArray.toList b3) (ByteArray.toList b8)) || ((ByteArray.toList b3)==(ByteArray.toList b8)))
 (T.ret (vI 31))
 (T.ah (m.add 3) [.slice 9] fun b9 c0 c1 =>
 aZ a5 c0 b9 fun c2 =>
 T.ah (c2.add (aK a5 1)) [.string] fun c3 =>
 aU 38 [.slice Y Z a0,.string c3] fun c4 =>
 T.bf [((m.add 3),[.slice b9 c0 c1]),((b7.add ((Int.toNat (bi (a5-(1:Int))))*1)),[.string b8]),((m.add 3),[.slice b4 b5 b6]),((b2.add (aK a5 1)),[.string b3]),((m.add 3),[.slice a9 b0 b1])] <|
 cond (!c4)
 (T.ret (vI 31))
 (T.again 3 [vI a4,bg a5])))
 (T.ah (m.add 3) [.slice 9] fun a9 b0 b1 =>
 aZ a5 b0 a9 fun b2 =>
 T.ah (b2.add (aK a5 1)) [.string] fun b3 =>
 aU 38 [.slice Y Z a0,.string b3] fun b4 =>
 T.bf [((m.add 3),[.slice a9 b0 b1])] <|
 cond (!b4)
 (T.ret (vI 31))
 (T.again 3 [vI a4,bg a5])))
 (T.ret (vI 0))))))))
theorem nY (a:Option ZC) (b c:Nat) (d:Option ZC) (e f:Nat) (g:Option ZC) (h i:Nat) (j:Option ZC) (k l:Nat):bI Tryz.prog [] Tryz.f10 [.agg #[.slice a b c,.slice d e f,.slice g h i,.slice j k l]]=jt a b c d e f g h i j k l:=ax
def tF :T :=
 T.dY Tryz.prog (Instr.buildSlice 186 43 #[(0,.agg #[.string ⟨#[110,111,112]⟩,.int .u8 0,vI 1]),(1,.agg #[.string ⟨#[104,97,108,116]⟩,.int .u8 1,vI 1]),(2,.agg #[.string ⟨#[114,101,116]⟩,.int .u8 2,vI 1]),(3,.agg #[.string ⟨#[112,114,105,110,116]⟩,.int .u8 3,vI 2]),(4,.agg #[.string ⟨#[105,110]⟩,.int .u8 4,vI 2]),(5,.agg #[.string ⟨#[112,117,115,104]⟩,.int .u8 5,vI 2]),(6,.agg #[.string ⟨#[112,111,112]⟩,.int .u8 6,vI 2]),(7,.agg #[.string ⟨#[106,114]⟩,.int .u8 7,vI 2]),(8,.agg #[.string ⟨#[110,101,103]⟩,.int .u8 8,vI 2]),(9,.agg #[.string ⟨#[110,111,116]⟩,.int .u8 9,vI 2]),(10,.agg #[.string ⟨#[122,116,117,114,110]⟩,.int .u8 10,vI 3]),(11,.agg #[.string ⟨#[122,99,111,110,106]⟩,.int .u8 11,vI 3]),(12,.agg #[.string ⟨#[109,111,118]⟩,.int .u8 16,vI 4]),(13,.agg #[.string ⟨#[97,100,100]⟩,.int .u8 17,vI 4]),(14,.agg #[.string ⟨#[115,117,98]⟩,.int .u8 18,vI 4]),(15,.agg #[.string ⟨#[109,117,108]⟩,.int .u8 19,vI 4]),(16,.agg #[.string ⟨#[100,105,118]⟩,.int .u8 20,vI 4]),(17,.agg #[.string ⟨#[97,110,100]⟩,.int .u8 21,vI 4]),(18,.agg #[.string ⟨#[111,114]⟩,.int .u8 22,vI 4]),(19,.agg #[.string ⟨#[120,111,114]⟩,.int .u8 23,vI 4]),(20,.agg #[.string ⟨#[115,104,108]⟩,.int .u8 24,vI 4]),(21,.agg #[.string ⟨#[115,104,114]⟩,.int .u8 25,vI 4]),(22,.agg #[.string ⟨#[108,116]⟩,.int .u8 26,vI 4]),(23,.agg #[.string ⟨#[101,113]⟩,.int .u8 27,vI 4]),(24,.agg #[.string ⟨#[108,100,98]⟩,.int .u8 28,vI 4]),(25,.agg #[.string ⟨#[108,100,119]⟩,.int .u8 29,vI 4]),(26,.agg #[.string ⟨#[108,100,109]⟩,.int .u8 30,vI 4]),(27,.agg #[.string ⟨#[115,116,109]⟩,.int .u8 31,vI 4]),(28,.agg #[.string ⟨#[122,109,111,118]⟩,.int .u8 32,vI 5]),(29,.agg #[.string ⟨#[122,97,100,100]⟩,.int .u8 33,vI 5]),(30,.agg #[.string ⟨#[122,115,117,98]⟩,.int .u8 34,vI 5]),(31,.agg #[.string ⟨#[122,109,117,108]⟩,.int .u8 35,vI 5]),(32,.agg #[.string ⟨#[122,114,101]⟩,.int .u8 36,vI 6]),(33,.agg #[.string ⟨#[122,105,109]⟩,.int .u8 37,vI 6]),(34,.agg #[.string ⟨#[122,115,101,116]⟩,.int .u8 38,vI 7]),(35,.agg #[.string ⟨#[108,105,115]⟩,.int .u8 48,vI 8]),(36,.agg #[.string ⟨#[116,114,97,112]⟩,.int .u8 49,vI 9]),(37,.agg #[.string ⟨#[108,105]⟩,.int .u8 50,vI 10]),(38,.agg #[.string ⟨#[108,100,112]⟩,.int .u8 51,vI 11]),(39,.agg #[.string ⟨#[106,109,112]⟩,.int .u8 64,vI 12]),(40,.agg #[.string ⟨#[99,97,108,108]⟩,.int .u8 67,vI 12]),(41,.agg #[.string ⟨#[106,122]⟩,.int .u8 70,vI 13]),(42,.agg #[.string ⟨#[106,110,122]⟩,.int .u8 73,vI 13])]) false [(false,[.slice 0])] fun a b c =>
 T.ret (.slice a b c)
theorem pS :bI Tryz.prog [] Tryz.f117 []=tF :=ax
end Go.Sx
