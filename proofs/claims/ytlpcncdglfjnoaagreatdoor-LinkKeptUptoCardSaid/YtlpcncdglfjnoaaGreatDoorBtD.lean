/- Trees of functions. No condition. -/
import Derived.Test.YtlpcncdglfjnoaaGreatDoorSxF
import Derived.Test.YtlpcncdglfjnoaaGreatDoorProg
import Derived.KernelRfl
set_option linter.all false
set_option maxRecDepth 100000
set_option maxHeartbeats 4000000
namespace Go.Sx
open Go.Proofs
def iS (a:Int) (b:Xaa) (c d e f g:Int) (h:Xac) (i j:Nat) (k l m:Int) (n:Xaa) (o p q r s:Int) (t:Xac) (u v:Nat) (w x:Int):T :=
 T.new [vI a,.string b,vI c,vI d,vI e,.int .i32 f,vI g,.slice h i j,ax k,vI l] 64 fun y =>
 T.new [vI m,.string n,vI o,vI p,vI q,.int .i32 r,vI s,.slice t u v,ax w,vI x] 64 fun z =>
 T.af y [.int .i64] fun A =>
 T.af z [.int .i64] fun B =>
 cond (A==B)
 (T.af (y.add 1) [.string] fun C =>
 T.af (z.add 1) [.string] fun D =>
 cond ((ByteArray.toList C)==(ByteArray.toList D))
 (T.af (y.add 2) [.int .i64,.int .i64,.int .i64,.int .i32,.int .i64] fun E F G H I =>
 T.af (z.add 2) [.int .i64,.int .i64,.int .i64,.int .i32,.int .i64] fun J K L M N =>
 ei (Sx.jk (BinOp.eql) 62 (Operand.tmp 19) (Operand.tmp 21) (.agg #[vI E,vI F,vI G,.int .i32 H,vI I]) (.agg #[vI J,vI K,vI L,.int .i32 M,vI N])) fun O =>
 cond O
 (T.af (y.add 7) (yL 66) fun P Q R S =>
 T.af (z.add 7) (yL 66) fun U V W X =>
 bd 88 [.agg #[.slice P Q R,ax S],.agg #[.slice U V W,ax X]] fun Y =>
 cond Y
 (T.af (y.add 9) [.int .i64] fun Z =>
 T.af (z.add 9) [.int .i64] fun a0 =>
 T.ret (.bool (Z==a0)))
 bH)
 bH)
 bH)
 bH
def mH (a:Int) (b:Xaa) (c d e f g:Int) (h:Xac) (i j:Nat) (k l m:Int) (n:Xaa) (o p q r s:Int) (t:Xac) (u v:Nat) (w x:Int):bS Xaz [] Tryz.f51 [.agg #[vI a,.string b,vI c,vI d,vI e,.int .i32 f,vI g,.slice h i j,.int .u32 k,vI l],.agg #[vI m,.string n,vI o,vI p,vI q,.int .i32 r,vI s,.slice t u v,.int .u32 w,vI x]]=iS a b c d e f g h i j k l m n o p q r s t u v w x:=aw
def oI (a:Xac) (b c:Nat) (d:Xac) (e f:Nat):T :=
 cond ((b:Int) != (e:Int))
 (T.ret (.bool false))
 (T.loop [(false,[.bool]),(false,[.int .i64])] [.bool false,vI 0] fun g h =>
 cond (decide (h<(b:Int)))
 (T.need ((0<=h)/\(h<(b:Int))) <|
 T.aR a fun i =>
 T.af (i.add ((Int.toNat h)*10)) (yI 66) fun j k l m n o p q r s t u =>
 T.need ((0<=h)/\(h<(e:Int))) <|
 T.aR d fun v =>
 T.af (v.add ((Int.toNat h)*10)) (yI 66) fun w x y z A B C D E F G H =>
 T.call Xaz 51 [.agg #[vI j,.string k,vI l,vI m,vI n,.int .i32 o,vI p,.slice q r s,.int .u32 t,vI u],.agg #[vI w,.string x,vI y,vI z,vI A,.int .i32 B,vI C,.slice D E F,.int .u32 G,vI H]] false [(false,[.bool])] fun I =>
 cond (!I)
 (T.ret (.bool false))
 (T.again 0 [.bool g,vI (IntKind.wrap .i64 (h+1))]))
 (T.ret (.bool true)))
def lM (a:Xac) (b c:Nat) (d:Xac) (e f:Nat):bS Xaz [] Tryz.f15 [.slice a b c,.slice d e f]=oI a b c d e f:=aw
def pG (a:Xac) (b c:Nat) (d:Xac) (e f:Nat):T :=
 cond ((b:Int) != (e:Int))
 (T.ret (.bool false))
 (T.loop [(false,[.bool]),(false,[.int .i64])] [.bool false,vI 0] fun g h =>
 cond (decide (h<(b:Int)))
 (T.need ((0<=h)/\(h<(b:Int))) <|
 T.aR a fun i =>
 T.af (i.add ((Int.toNat h)*3)) [.string] fun j =>
 T.need ((0<=h)/\(h<(e:Int))) <|
 T.aR d fun k =>
 T.af (k.add ((Int.toNat h)*3)) [.string] fun l =>
 cond (!((ByteArray.toList j)==(ByteArray.toList l)))
 (T.ret (.bool false))
 (T.need ((0<=h)/\(h<(b:Int))) <|
 T.aR a fun m =>
 T.af ((m.add ((Int.toNat h)*3)).add 1) (yL 66) fun n o p q =>
 T.need ((0<=h)/\(h<(e:Int))) <|
 T.aR d fun r =>
 T.af ((r.add ((Int.toNat h)*3)).add 1) (yL 66) fun s t u v =>
 T.call Xaz 88 [.agg #[.slice n o p,.int .u32 q],.agg #[.slice s t u,.int .u32 v]] false [(false,[.bool])] fun w =>
 T.aD [((k.add ((Int.toNat h)*3)),[.string l]),((i.add ((Int.toNat h)*3)),[.string j])] <|
 cond (!w)
 (T.ret (.bool false))
 (T.again 0 [.bool g,vI (IntKind.wrap .i64 (h+1))])))
 (T.ret (.bool true)))
def nl (a:Xac) (b c:Nat) (d:Xac) (e f:Nat):bS Xaz [] Tryz.f58 [.slice a b c,.slice d e f]=pG a b c d e f:=aw
def lV (a:Xac) (b c:Nat) (d:Xac) (e f:Nat):T :=
 cond ((b:Int) != (e:Int))
 (T.ret (.bool false))
 (T.loop [(false,[.bool]),(false,[.int .i64])] [.bool false,vI 0] fun g h =>
 cond (decide (h<(b:Int)))
 (T.need ((0<=h)/\(h<(b:Int))) <|
 T.aR a fun i =>
 T.af (i.add ((Int.toNat h)*1)) [.string] fun j =>
 T.need ((0<=h)/\(h<(e:Int))) <|
 T.aR d fun k =>
 T.af (k.add ((Int.toNat h)*1)) [.string] fun l =>
 cond (!((ByteArray.toList j)==(ByteArray.toList l)))
 (T.ret (.bool false))
 (T.again 0 [.bool g,vI (IntKind.wrap .i64 (h+1))]))
 (T.ret (.bool true)))
def jY (a:Xac) (b c:Nat) (d:Xac) (e f:Nat):bS Xaz [] Tryz.f59 [.slice a b c,.slice d e f]=lV a b c d e f:=aw
def iX (a:Xac) (b c:Nat) (d:Xac) (e f:Nat) (g:Xac) (h i:Nat) (j:Xac) (k l:Nat) (m:Xac) (n o:Nat) (p:Xac) (q r:Nat) (s:Xac) (t u:Nat) (v:Xac) (w x:Nat):T :=
 T.new [.slice a b c,.slice d e f,.slice g h i,.slice j k l] 30 fun y =>
 T.new [.slice m n o,.slice p q r,.slice s t u,.slice v w x] 30 fun z =>
 T.af y [.slice 64] fun A B C =>
 T.af z [.slice 64] fun D E F =>
 bd 15 [.slice A B C,.slice D E F] fun G =>
 cond G
 (T.af (y.add 1) [.slice 64] fun H I J =>
 T.af (z.add 1) [.slice 64] fun K L M =>
 bd 15 [.slice H I J,.slice K L M] fun N =>
 cond N
 (T.af (y.add 2) [.slice 88] fun O P Q =>
 T.af (z.add 2) [.slice 88] fun R S U =>
 bd 58 [.slice O P Q,.slice R S U] fun V =>
 cond V
 (T.af (y.add 3) [.slice 9] fun W X Y =>
 T.af (z.add 3) [.slice 9] fun Z a0 a1 =>
 bd 59 [.slice W X Y,.slice Z a0 a1] fun a2 =>
 T.ret (.bool a2))
 bH)
 bH)
 bH
def nj (a:Xac) (b c:Nat) (d:Xac) (e f:Nat) (g:Xac) (h i:Nat) (j:Xac) (k l:Nat) (m:Xac) (n o:Nat) (p:Xac) (q r:Nat) (s:Xac) (t u:Nat) (v:Xac) (w x:Nat):bS Xaz [] Tryz.f24 [.agg #[.slice a b c,.slice d e f,.slice g h i,.slice j k l],.agg #[.slice m n o,.slice p q r,.slice s t u,.slice v w x]]=iX a b c d e f g h i j k l m n o p q r s t u v w x:=aw
def kz (a:Xac) (b c:Nat):T :=
 T.loop [cr,aK,aK] [.bool false,vI 0,vI 0] fun d e f =>
 bn f b
 (cond (decide (f<65))
 (aY f b a fun g =>
 T.af (g.add (ay f 4)) [.slice 64] fun h i j =>
 cond (decide ((i:Int)>600))
 dZ
 (aY f b a fun k =>
 T.af ((k.add (ay f 4)).add 1) [.slice 64] fun l m n =>
 cond (decide ((m:Int)>300))
 dZ
 (aY f b a fun o =>
 T.af ((o.add (ay f 4)).add 2) [.slice 88] fun p q r =>
 cond (decide ((q:Int)>100))
 dZ
 (aY f b a fun s =>
 T.af (s.add (ay f 4)) [.slice 64] fun t u v =>
 aY f b a fun w =>
 T.af ((w.add (ay f 4)).add 1) [.slice 64] fun x y z =>
 aY f b a fun A =>
 T.af ((A.add (ay f 4)).add 2) [.slice 88] fun B C D =>
 T.again 0 [.bool d,vI (bC ((bC ((bC (e+(u:Int)))+(y:Int)))+(C:Int))),bj f]))))
 (T.ret (.bool (decide (e>900)))))
 (T.ret (.bool (decide (e>900))))
def qf (a:Xac) (b c:Nat):bS Xaz [] Tryz.f8 [.slice a b c]=kz a b c:=aw
def iU (a:Xac) (b c:Nat) (d:Xac) (e f:Nat) (g:Xac) (h i:Nat) (j:Xac) (k l:Nat):T :=
 T.new [.slice a b c,.slice d e f,.slice g h i,.slice j k l] 30 fun m =>
 T.new [aS,aS,aS,aS] 30 fun n =>
 T.af m [.slice 64] fun o p q =>
 T.af (m.add 1) [.slice 64] fun r s t =>
 T.af (m.add 3) [.slice 9] fun u v w =>
 T.all [ (bz 52 [.slice o p q] false [(false,[.slice 64])] fun x y z =>
 T.aD [((m.add 3),[.slice u v w]),((m.add 1),[.slice r s t])] <|
 T.all [ (bz 52 [.slice r s t] false [(false,[.slice 64])] fun A B C =>
 T.aD [((m.add 3),[.slice u v w]),(m,[.slice o p q])] <|
 T.all [ (aT (Instr.buildSlice 28 0 #[]) fun D E F =>
 T.aD [((m.add 3),[.slice u v w]),((m.add 1),[.slice r s t]),(m,[.slice o p q])] <|
 T.all [ (aT (Builtin.append_ #[28,28] 28 #[.slice D E F,.slice u v w]) fun G H I =>
 T.aD [((m.add 1),[.slice r s t]),(m,[.slice o p q])] <|
 T.new [aS,aS,aS,aS] 30 fun J =>
 T.aD [((m.add 3),[.slice u v w]),((m.add 1),[.slice r s t]),(m,[.slice o p q])] <|
 T.ar J [.slice x y z,.slice A B C,aS,.slice G H I] <|
 T.loop [aK] [vI 0] fun K =>
 T.af (m.add 2) [.slice 88] fun L M N =>
 bn K M
 (T.af (J.add 2) [.slice 88] fun O P Q =>
 T.af (m.add 2) [.slice 88] fun R S U =>
 aY K S R fun V =>
 T.af (V.add (ay K 3)) [.string] fun W =>
 T.af (m.add 2) [.slice 88] fun X Y Z =>
 aY K Y X fun a0 =>
 T.af ((a0.add (ay K 3)).add 1) (yL 66) fun a1 a2 a3 a4 =>
 bz 57 [.agg #[.slice a1 a2 a3,ax a4]] false [(true,(yL 66))] fun a5 a6 a7 a8 =>
 T.aD [((m.add 2),[.slice X Y Z]),((V.add (ay K 3)),[.string W]),((m.add 2),[.slice R S U]),((J.add 2),[.slice O P Q])] <|
 aT (Instr.buildSlice 27 1 #[(0,.agg #[.string W,.slice a5 a6 a7,ax a8])]) fun a9 b0 b1 =>
 T.aD [(((a0.add (ay K 3)).add 1),[.slice a1 a2 a3,ax a4]),((m.add 2),[.slice X Y Z]),((V.add (ay K 3)),[.string W]),((m.add 2),[.slice R S U]),((J.add 2),[.slice O P Q])] <|
 aT (Builtin.append_ #[27,27] 27 #[.slice O P Q,.slice a9 b0 b1]) fun b2 b3 b4 =>
 T.aD [(((a0.add (ay K 3)).add 1),[.slice a1 a2 a3,ax a4]),((m.add 2),[.slice X Y Z]),((V.add (ay K 3)),[.string W]),((m.add 2),[.slice R S U])] <|
 T.ar (J.add 2) [.slice b2 b3 b4] <|
 T.again 0 [bj K])
 (T.af J (yU 64 88) fun O P Q R S U V W X Y Z a0 =>
 T.ar n [.slice O P Q,.slice R S U,.slice V W X,.slice Y Z a0] <|
 T.af n (yU 64 88) fun a1 a2 a3 a4 a5 a6 a7 a8 a9 b0 b1 b2 =>
 T.ret (.agg #[.slice a1 a2 a3,.slice a4 a5 a6,.slice a7 a8 a9,.slice b0 b1 b2]))),
 (T.new [aS,aS,aS,aS] 30 fun G =>
 T.aD [((m.add 3),[.slice u v w]),((m.add 1),[.slice r s t]),(m,[.slice o p q])] <|
 aT (Builtin.append_ #[28,28] 28 #[.slice D E F,.slice u v w]) fun H I J =>
 T.aD [((m.add 1),[.slice r s t]),(m,[.slice o p q])] <|
 T.ar G [.slice x y z,.slice A B C,aS,.slice H I J] <|
 T.loop [aK] [vI 0] fun K =>
 T.af (m.add 2) [.slice 88] fun L M N =>
 bn K M
 (T.af (G.add 2) [.slice 88] fun O P Q =>
 T.af (m.add 2) [.slice 88] fun R S U =>
 aY K S R fun V =>
 T.af (V.add (ay K 3)) [.string] fun W =>
 T.af (m.add 2) [.slice 88] fun X Y Z =>
 aY K Y X fun a0 =>
 T.af ((a0.add (ay K 3)).add 1) (yL 66) fun a1 a2 a3 a4 =>
 bz 57 [.agg #[.slice a1 a2 a3,ax a4]] false [(true,(yL 66))] fun a5 a6 a7 a8 =>
 T.aD [((m.add 2),[.slice X Y Z]),((V.add (ay K 3)),[.string W]),((m.add 2),[.slice R S U]),((G.add 2),[.slice O P Q])] <|
 aT (Instr.buildSlice 27 1 #[(0,.agg #[.string W,.slice a5 a6 a7,ax a8])]) fun a9 b0 b1 =>
 T.aD [(((a0.add (ay K 3)).add 1),[.slice a1 a2 a3,ax a4]),((m.add 2),[.slice X Y Z]),((V.add (ay K 3)),[.string W]),((m.add 2),[.slice R S U]),((G.add 2),[.slice O P Q])] <|
 aT (Builtin.append_ #[27,27] 27 #[.slice O P Q,.slice a9 b0 b1]) fun b2 b3 b4 =>
 T.aD [(((a0.add (ay K 3)).add 1),[.slice a1 a2 a3,ax a4]),((m.add 2),[.slice X Y Z]),((V.add (ay K 3)),[.string W]),((m.add 2),[.slice R S U])] <|
 T.ar (G.add 2) [.slice b2 b3 b4] <|
 T.again 0 [bj K])
 (T.af G (yU 64 88) fun O P Q R S U V W X Y Z a0 =>
 T.ar n [.slice O P Q,.slice R S U,.slice V W X,.slice Y Z a0] <|
 T.af n (yU 64 88) fun a1 a2 a3 a4 a5 a6 a7 a8 a9 b0 b1 b2 =>
 T.ret (.agg #[.slice a1 a2 a3,.slice a4 a5 a6,.slice a7 a8 a9,.slice b0 b1 b2])))]),
 (T.new [aS,aS,aS,aS] 30 fun D =>
 T.aD [((m.add 3),[.slice u v w]),((m.add 1),[.slice r s t]),(m,[.slice o p q])] <|
 aT (Instr.buildSlice 28 0 #[]) fun E F G =>
 T.aD [((m.add 3),[.slice u v w]),((m.add 1),[.slice r s t]),(m,[.slice o p q])] <|
 aT (Builtin.append_ #[28,28] 28 #[.slice E F G,.slice u v w]) fun H I J =>
 T.aD [((m.add 1),[.slice r s t]),(m,[.slice o p q])] <|
 T.ar D [.slice x y z,.slice A B C,aS,.slice H I J] <|
 T.loop [aK] [vI 0] fun K =>
 T.af (m.add 2) [.slice 88] fun L M N =>
 bn K M
 (T.af (D.add 2) [.slice 88] fun O P Q =>
 T.af (m.add 2) [.slice 88] fun R S U =>
 aY K S R fun V =>
 T.af (V.add (ay K 3)) [.string] fun W =>
 T.af (m.add 2) [.slice 88] fun X Y Z =>
 aY K Y X fun a0 =>
 T.af ((a0.add (ay K 3)).add 1) (yL 66) fun a1 a2 a3 a4 =>
 bz 57 [.agg #[.slice a1 a2 a3,ax a4]] false [(true,(yL 66))] fun a5 a6 a7 a8 =>
 T.aD [((m.add 2),[.slice X Y Z]),((V.add (ay K 3)),[.string W]),((m.add 2),[.slice R S U]),((D.add 2),[.slice O P Q])] <|
 aT (Instr.buildSlice 27 1 #[(0,.agg #[.string W,.slice a5 a6 a7,ax a8])]) fun a9 b0 b1 =>
 T.aD [(((a0.add (ay K 3)).add 1),[.slice a1 a2 a3,ax a4]),((m.add 2),[.slice X Y Z]),((V.add (ay K 3)),[.string W]),((m.add 2),[.slice R S U]),((D.add 2),[.slice O P Q])] <|
 aT (Builtin.append_ #[27,27] 27 #[.slice O P Q,.slice a9 b0 b1]) fun b2 b3 b4 =>
 T.aD [(((a0.add (ay K 3)).add 1),[.slice a1 a2 a3,ax a4]),((m.add 2),[.slice X Y Z]),((V.add (ay K 3)),[.string W]),((m.add 2),[.slice R S U])] <|
 T.ar (D.add 2) [.slice b2 b3 b4] <|
 T.again 0 [bj K])
 (T.af D (yU 64 88) fun O P Q R S U V W X Y Z a0 =>
 T.ar n [.slice O P Q,.slice R S U,.slice V W X,.slice Y Z a0] <|
 T.af n (yU 64 88) fun a1 a2 a3 a4 a5 a6 a7 a8 a9 b0 b1 b2 =>
 T.ret (.agg #[.slice a1 a2 a3,.slice a4 a5 a6,.slice a7 a8 a9,.slice b0 b1 b2])))]),
 (aT (Instr.buildSlice 28 0 #[]) fun A B C =>
 T.aD [((m.add 3),[.slice u v w]),((m.add 1),[.slice r s t]),(m,[.slice o p q])] <|
 T.all [ (bz 52 [.slice r s t] false [(false,[.slice 64])] fun D E F =>
 T.aD [((m.add 3),[.slice u v w]),(m,[.slice o p q])] <|
 T.all [ (aT (Builtin.append_ #[28,28] 28 #[.slice A B C,.slice u v w]) fun G H I =>
 T.aD [((m.add 1),[.slice r s t]),(m,[.slice o p q])] <|
 T.new [aS,aS,aS,aS] 30 fun J =>
 T.aD [((m.add 3),[.slice u v w]),((m.add 1),[.slice r s t]),(m,[.slice o p q])] <|
 T.ar J [.slice x y z,.slice D E F,aS,.slice G H I] <|
 T.loop [aK] [vI 0] fun K =>
 T.af (m.add 2) [.slice 88] fun L M N =>
 bn K M
 (T.af (J.add 2) [.slice 88] fun O P Q =>
 T.af (m.add 2) [.slice 88] fun R S U =>
 aY K S R fun V =>
 T.af (V.add (ay K 3)) [.string] fun W =>
 T.af (m.add 2) [.slice 88] fun X Y Z =>
 aY K Y X fun a0 =>
 T.af ((a0.add (ay K 3)).add 1) (yL 66) fun a1 a2 a3 a4 =>
 bz 57 [.agg #[.slice a1 a2 a3,ax a4]] false [(true,(yL 66))] fun a5 a6 a7 a8 =>
 T.aD [((m.add 2),[.slice X Y Z]),((V.add (ay K 3)),[.string W]),((m.add 2),[.slice R S U]),((J.add 2),[.slice O P Q])] <|
 aT (Instr.buildSlice 27 1 #[(0,.agg #[.string W,.slice a5 a6 a7,ax a8])]) fun a9 b0 b1 =>
 T.aD [(((a0.add (ay K 3)).add 1),[.slice a1 a2 a3,ax a4]),((m.add 2),[.slice X Y Z]),((V.add (ay K 3)),[.string W]),((m.add 2),[.slice R S U]),((J.add 2),[.slice O P Q])] <|
 aT (Builtin.append_ #[27,27] 27 #[.slice O P Q,.slice a9 b0 b1]) fun b2 b3 b4 =>
 T.aD [(((a0.add (ay K 3)).add 1),[.slice a1 a2 a3,ax a4]),((m.add 2),[.slice X Y Z]),((V.add (ay K 3)),[.string W]),((m.add 2),[.slice R S U])] <|
 T.ar (J.add 2) [.slice b2 b3 b4] <|
 T.again 0 [bj K])
 (T.af J (yU 64 88) fun O P Q R S U V W X Y Z a0 =>
 T.ar n [.slice O P Q,.slice R S U,.slice V W X,.slice Y Z a0] <|
 T.af n (yU 64 88) fun a1 a2 a3 a4 a5 a6 a7 a8 a9 b0 b1 b2 =>
 T.ret (.agg #[.slice a1 a2 a3,.slice a4 a5 a6,.slice a7 a8 a9,.slice b0 b1 b2]))),
 (T.new [aS,aS,aS,aS] 30 fun G =>
 T.aD [((m.add 3),[.slice u v w]),((m.add 1),[.slice r s t]),(m,[.slice o p q])] <|
 aT (Builtin.append_ #[28,28] 28 #[.slice A B C,.slice u v w]) fun H I J =>
 T.aD [((m.add 1),[.slice r s t]),(m,[.slice o p q])] <|
 T.ar G [.slice x y z,.slice D E F,aS,.slice H I J] <|
 T.loop [aK] [vI 0] fun K =>
 T.af (m.add 2) [.slice 88] fun L M N =>
 bn K M
 (T.af (G.add 2) [.slice 88] fun O P Q =>
 T.af (m.add 2) [.slice 88] fun R S U =>
 aY K S R fun V =>
 T.af (V.add (ay K 3)) [.string] fun W =>
 T.af (m.add 2) [.slice 88] fun X Y Z =>
 aY K Y X fun a0 =>
 T.af ((a0.add (ay K 3)).add 1) (yL 66) fun a1 a2 a3 a4 =>
 bz 57 [.agg #[.slice a1 a2 a3,ax a4]] false [(true,(yL 66))] fun a5 a6 a7 a8 =>
 T.aD [((m.add 2),[.slice X Y Z]),((V.add (ay K 3)),[.string W]),((m.add 2),[.slice R S U]),((G.add 2),[.slice O P Q])] <|
 aT (Instr.buildSlice 27 1 #[(0,.agg #[.string W,.slice a5 a6 a7,ax a8])]) fun a9 b0 b1 =>
 T.aD [(((a0.add (ay K 3)).add 1),[.slice a1 a2 a3,ax a4]),((m.add 2),[.slice X Y Z]),((V.add (ay K 3)),[.string W]),((m.add 2),[.slice R S U]),((G.add 2),[.slice O P Q])] <|
 aT (Builtin.append_ #[27,27] 27 #[.slice O P Q,.slice a9 b0 b1]) fun b2 b3 b4 =>
 T.aD [(((a0.add (ay K 3)).add 1),[.slice a1 a2 a3,ax a4]),((m.add 2),[.slice X Y Z]),((V.add (ay K 3)),[.string W]),((m.add 2),[.slice R S U])] <|
 T.ar (G.add 2) [.slice b2 b3 b4] <|
 T.again 0 [bj K])
 (T.af G (yU 64 88) fun O P Q R S U V W X Y Z a0 =>
 T.ar n [.slice O P Q,.slice R S U,.slice V W X,.slice Y Z a0] <|
 T.af n (yU 64 88) fun a1 a2 a3 a4 a5 a6 a7 a8 a9 b0 b1 b2 =>
 T.ret (.agg #[.slice a1 a2 a3,.slice a4 a5 a6,.slice a7 a8 a9,.slice b0 b1 b2])))]),
 (T.new [aS,aS,aS,aS] 30 fun D =>
 T.aD [((m.add 3),[.slice u v w]),((m.add 1),[.slice r s t]),(m,[.slice o p q])] <|
 bz 52 [.slice r s t] false [(false,[.slice 64])] fun E F G =>
 T.aD [((m.add 3),[.slice u v w]),(m,[.slice o p q])] <|
 aT (Builtin.append_ #[28,28] 28 #[.slice A B C,.slice u v w]) fun H I J =>
 T.aD [((m.add 1),[.slice r s t]),(m,[.slice o p q])] <|
 T.ar D [.slice x y z,.slice E F G,aS,.slice H I J] <|
 T.loop [aK] [vI 0] fun K =>
 T.af (m.add 2) [.slice 88] fun L M N =>
 bn K M
 (T.af (D.add 2) [.slice 88] fun O P Q =>
 T.af (m.add 2) [.slice 88] fun R S U =>
 aY K S R fun V =>
 T.af (V.add (ay K 3)) [.string] fun W =>
 T.af (m.add 2) [.slice 88] fun X Y Z =>
 aY K Y X fun a0 =>
 T.af ((a0.add (ay K 3)).add 1) (yL 66) fun a1 a2 a3 a4 =>
 bz 57 [.agg #[.slice a1 a2 a3,ax a4]] false [(true,(yL 66))] fun a5 a6 a7 a8 =>
 T.aD [((m.add 2),[.slice X Y Z]),((V.add (ay K 3)),[.string W]),((m.add 2),[.slice R S U]),((D.add 2),[.slice O P Q])] <|
 aT (Instr.buildSlice 27 1 #[(0,.agg #[.string W,.slice a5 a6 a7,ax a8])]) fun a9 b0 b1 =>
 T.aD [(((a0.add (ay K 3)).add 1),[.slice a1 a2 a3,ax a4]),((m.add 2),[.slice X Y Z]),((V.add (ay K 3)),[.string W]),((m.add 2),[.slice R S U]),((D.add 2),[.slice O P Q])] <|
 aT (Builtin.append_ #[27,27] 27 #[.slice O P Q,.slice a9 b0 b1]) fun b2 b3 b4 =>
 T.aD [(((a0.add (ay K 3)).add 1),[.slice a1 a2 a3,ax a4]),((m.add 2),[.slice X Y Z]),((V.add (ay K 3)),[.string W]),((m.add 2),[.slice R S U])] <|
 T.ar (D.add 2) [.slice b2 b3 b4] <|
 T.again 0 [bj K])
 (T.af D (yU 64 88) fun O P Q R S U V W X Y Z a0 =>
 T.ar n [.slice O P Q,.slice R S U,.slice V W X,.slice Y Z a0] <|
 T.af n (yU 64 88) fun a1 a2 a3 a4 a5 a6 a7 a8 a9 b0 b1 b2 =>
 T.ret (.agg #[.slice a1 a2 a3,.slice a4 a5 a6,.slice a7 a8 a9,.slice b0 b1 b2])))]),
 (T.new [aS,aS,aS,aS] 30 fun A =>
 T.aD [((m.add 3),[.slice u v w]),((m.add 1),[.slice r s t]),(m,[.slice o p q])] <|
 T.all [ (bz 52 [.slice r s t] false [(false,[.slice 64])] fun B C D =>
 T.aD [((m.add 3),[.slice u v w]),(m,[.slice o p q])] <|
 aT (Instr.buildSlice 28 0 #[]) fun E F G =>
 T.aD [((m.add 3),[.slice u v w]),((m.add 1),[.slice r s t]),(m,[.slice o p q])] <|
 aT (Builtin.append_ #[28,28] 28 #[.slice E F G,.slice u v w]) fun H I J =>
 T.aD [((m.add 1),[.slice r s t]),(m,[.slice o p q])] <|
 T.ar A [.slice x y z,.slice B C D,aS,.slice H I J] <|
 T.loop [aK] [vI 0] fun K =>
 T.af (m.add 2) [.slice 88] fun L M N =>
 bn K M
 (T.af (A.add 2) [.slice 88] fun O P Q =>
 T.af (m.add 2) [.slice 88] fun R S U =>
 aY K S R fun V =>
 T.af (V.add (ay K 3)) [.string] fun W =>
 T.af (m.add 2) [.slice 88] fun X Y Z =>
 aY K Y X fun a0 =>
 T.af ((a0.add (ay K 3)).add 1) (yL 66) fun a1 a2 a3 a4 =>
 bz 57 [.agg #[.slice a1 a2 a3,ax a4]] false [(true,(yL 66))] fun a5 a6 a7 a8 =>
 T.aD [((m.add 2),[.slice X Y Z]),((V.add (ay K 3)),[.string W]),((m.add 2),[.slice R S U]),((A.add 2),[.slice O P Q])] <|
 aT (Instr.buildSlice 27 1 #[(0,.agg #[.string W,.slice a5 a6 a7,ax a8])]) fun a9 b0 b1 =>
 T.aD [(((a0.add (ay K 3)).add 1),[.slice a1 a2 a3,ax a4]),((m.add 2),[.slice X Y Z]),((V.add (ay K 3)),[.string W]),((m.add 2),[.slice R S U]),((A.add 2),[.slice O P Q])] <|
 aT (Builtin.append_ #[27,27] 27 #[.slice O P Q,.slice a9 b0 b1]) fun b2 b3 b4 =>
 T.aD [(((a0.add (ay K 3)).add 1),[.slice a1 a2 a3,ax a4]),((m.add 2),[.slice X Y Z]),((V.add (ay K 3)),[.string W]),((m.add 2),[.slice R S U])] <|
 T.ar (A.add 2) [.slice b2 b3 b4] <|
 T.again 0 [bj K])
 (T.af A (yU 64 88) fun O P Q R S U V W X Y Z a0 =>
 T.ar n [.slice O P Q,.slice R S U,.slice V W X,.slice Y Z a0] <|
 T.af n (yU 64 88) fun a1 a2 a3 a4 a5 a6 a7 a8 a9 b0 b1 b2 =>
 T.ret (.agg #[.slice a1 a2 a3,.slice a4 a5 a6,.slice a7 a8 a9,.slice b0 b1 b2]))),
 (aT (Instr.buildSlice 28 0 #[]) fun B C D =>
 T.aD [((m.add 3),[.slice u v w]),((m.add 1),[.slice r s t]),(m,[.slice o p q])] <|
 bz 52 [.slice r s t] false [(false,[.slice 64])] fun E F G =>
 T.aD [((m.add 3),[.slice u v w]),(m,[.slice o p q])] <|
 aT (Builtin.append_ #[28,28] 28 #[.slice B C D,.slice u v w]) fun H I J =>
 T.aD [((m.add 1),[.slice r s t]),(m,[.slice o p q])] <|
 T.ar A [.slice x y z,.slice E F G,aS,.slice H I J] <|
 T.loop [aK] [vI 0] fun K =>
 T.af (m.add 2) [.slice 88] fun L M N =>
 bn K M
 (T.af (A.add 2) [.slice 88] fun O P Q =>
 T.af (m.add 2) [.slice 88] fun R S U =>
 aY K S R fun V =>
 T.af (V.add (ay K 3)) [.string] fun W =>
 T.af (m.add 2) [.slice 88] fun X Y Z =>
 aY K Y X fun a0 =>
 T.af ((a0.add (ay K 3)).add 1) (yL 66) fun a1 a2 a3 a4 =>
 bz 57 [.agg #[.slice a1 a2 a3,ax a4]] false [(true,(yL 66))] fun a5 a6 a7 a8 =>
 T.aD [((m.add 2),[.slice X Y Z]),((V.add (ay K 3)),[.string W]),((m.add 2),[.slice R S U]),((A.add 2),[.slice O P Q])] <|
 aT (Instr.buildSlice 27 1 #[(0,.agg #[.string W,.slice a5 a6 a7,ax a8])]) fun a9 b0 b1 =>
 T.aD [(((a0.add (ay K 3)).add 1),[.slice a1 a2 a3,ax a4]),((m.add 2),[.slice X Y Z]),((V.add (ay K 3)),[.string W]),((m.add 2),[.slice R S U]),((A.add 2),[.slice O P Q])] <|
 aT (Builtin.append_ #[27,27] 27 #[.slice O P Q,.slice a9 b0 b1]) fun b2 b3 b4 =>
 T.aD [(((a0.add (ay K 3)).add 1),[.slice a1 a2 a3,ax a4]),((m.add 2),[.slice X Y Z]),((V.add (ay K 3)),[.string W]),((m.add 2),[.slice R S U])] <|
 T.ar (A.add 2) [.slice b2 b3 b4] <|
 T.again 0 [bj K])
 (T.af A (yU 64 88) fun O P Q R S U V W X Y Z a0 =>
 T.ar n [.slice O P Q,.slice R S U,.slice V W X,.slice Y Z a0] <|
 T.af n (yU 64 88) fun a1 a2 a3 a4 a5 a6 a7 a8 a9 b0 b1 b2 =>
 T.ret (.agg #[.slice a1 a2 a3,.slice a4 a5 a6,.slice a7 a8 a9,.slice b0 b1 b2])))])]),
 (aT (Instr.buildSlice 28 0 #[]) fun x y z =>
 T.aD [((m.add 3),[.slice u v w]),((m.add 1),[.slice r s t]),(m,[.slice o p q])] <|
 T.all [ (bz 52 [.slice o p q] false [(false,[.slice 64])] fun A B C =>
 T.aD [((m.add 3),[.slice u v w]),((m.add 1),[.slice r s t])] <|
 T.all [ (bz 52 [.slice r s t] false [(false,[.slice 64])] fun D E F =>
 T.aD [((m.add 3),[.slice u v w]),(m,[.slice o p q])] <|
 T.all [ (aT (Builtin.append_ #[28,28] 28 #[.slice x y z,.slice u v w]) fun G H I =>
 T.aD [((m.add 1),[.slice r s t]),(m,[.slice o p q])] <|
 T.new [aS,aS,aS,aS] 30 fun J =>
 T.aD [((m.add 3),[.slice u v w]),((m.add 1),[.slice r s t]),(m,[.slice o p q])] <|
 T.ar J [.slice A B C,.slice D E F,aS,.slice G H I] <|
 T.loop [aK] [vI 0] fun K =>
 T.af (m.add 2) [.slice 88] fun L M N =>
 bn K M
 (T.af (J.add 2) [.slice 88] fun O P Q =>
 T.af (m.add 2) [.slice 88] fun R S U =>
 aY K S R fun V =>
 T.af (V.add (ay K 3)) [.string] fun W =>
 T.af (m.add 2) [.slice 88] fun X Y Z =>
 aY K Y X fun a0 =>
 T.af ((a0.add (ay K 3)).add 1) (yL 66) fun a1 a2 a3 a4 =>
 bz 57 [.agg #[.slice a1 a2 a3,ax a4]] false [(true,(yL 66))] fun a5 a6 a7 a8 =>
 T.aD [((m.add 2),[.slice X Y Z]),((V.add (ay K 3)),[.string W]),((m.add 2),[.slice R S U]),((J.add 2),[.slice O P Q])] <|
 aT (Instr.buildSlice 27 1 #[(0,.agg #[.string W,.slice a5 a6 a7,ax a8])]) fun a9 b0 b1 =>
 T.aD [(((a0.add (ay K 3)).add 1),[.slice a1 a2 a3,ax a4]),((m.add 2),[.slice X Y Z]),((V.add (ay K 3)),[.string W]),((m.add 2),[.slice R S U]),((J.add 2),[.slice O P Q])] <|
 aT (Builtin.append_ #[27,27] 27 #[.slice O P Q,.slice a9 b0 b1]) fun b2 b3 b4 =>
 T.aD [(((a0.add (ay K 3)).add 1),[.slice a1 a2 a3,ax a4]),((m.add 2),[.slice X Y Z]),((V.add (ay K 3)),[.string W]),((m.add 2),[.slice R S U])] <|
 T.ar (J.add 2) [.slice b2 b3 b4] <|
 T.again 0 [bj K])
 (T.af J (yU 64 88) fun O P Q R S U V W X Y Z a0 =>
 T.ar n [.slice O P Q,.slice R S U,.slice V W X,.slice Y Z a0] <|
 T.af n (yU 64 88) fun a1 a2 a3 a4 a5 a6 a7 a8 a9 b0 b1 b2 =>
 T.ret (.agg #[.slice a1 a2 a3,.slice a4 a5 a6,.slice a7 a8 a9,.slice b0 b1 b2]))),
 (T.new [aS,aS,aS,aS] 30 fun G =>
 T.aD [((m.add 3),[.slice u v w]),((m.add 1),[.slice r s t]),(m,[.slice o p q])] <|
 aT (Builtin.append_ #[28,28] 28 #[.slice x y z,.slice u v w]) fun H I J =>
 T.aD [((m.add 1),[.slice r s t]),(m,[.slice o p q])] <|
 T.ar G [.slice A B C,.slice D E F,aS,.slice H I J] <|
 T.loop [aK] [vI 0] fun K =>
 T.af (m.add 2) [.slice 88] fun L M N =>
 bn K M
 (T.af (G.add 2) [.slice 88] fun O P Q =>
 T.af (m.add 2) [.slice 88] fun R S U =>
 aY K S R fun V =>
 T.af (V.add (ay K 3)) [.string] fun W =>
 T.af (m.add 2) [.slice 88] fun X Y Z =>
 aY K Y X fun a0 =>
 T.af ((a0.add (ay K 3)).add 1) (yL 66) fun a1 a2 a3 a4 =>
 bz 57 [.agg #[.slice a1 a2 a3,ax a4]] false [(true,(yL 66))] fun a5 a6 a7 a8 =>
 T.aD [((m.add 2),[.slice X Y Z]),((V.add (ay K 3)),[.string W]),((m.add 2),[.slice R S U]),((G.add 2),[.slice O P Q])] <|
 aT (Instr.buildSlice 27 1 #[(0,.agg #[.string W,.slice a5 a6 a7,ax a8])]) fun a9 b0 b1 =>
 T.aD [(((a0.add (ay K 3)).add 1),[.slice a1 a2 a3,ax a4]),((m.add 2),[.slice X Y Z]),((V.add (ay K 3)),[.string W]),((m.add 2),[.slice R S U]),((G.add 2),[.slice O P Q])] <|
 aT (Builtin.append_ #[27,27] 27 #[.slice O P Q,.slice a9 b0 b1]) fun b2 b3 b4 =>
 T.aD [(((a0.add (ay K 3)).add 1),[.slice a1 a2 a3,ax a4]),((m.add 2),[.slice X Y Z]),((V.add (ay K 3)),[.string W]),((m.add 2),[.slice R S U])] <|
 T.ar (G.add 2) [.slice b2 b3 b4] <|
 T.again 0 [bj K])
 (T.af G (yU 64 88) fun O P Q R S U V W X Y Z a0 =>
 T.ar n [.slice O P Q,.slice R S U,.slice V W X,.slice Y Z a0] <|
 T.af n (yU 64 88) fun a1 a2 a3 a4 a5 a6 a7 a8 a9 b0 b1 b2 =>
 T.ret (.agg #[.slice a1 a2 a3,.slice a4 a5 a6,.slice a7 a8 a9,.slice b0 b1 b2])))]),
 (T.new [aS,aS,aS,aS] 30 fun D =>
 T.aD [((m.add 3),[.slice u v w]),((m.add 1),[.slice r s t]),(m,[.slice o p q])] <|
 bz 52 [.slice r s t] false [(false,[.slice 64])] fun E F G =>
 T.aD [((m.add 3),[.slice u v w]),(m,[.slice o p q])] <|
 aT (Builtin.append_ #[28,28] 28 #[.slice x y z,.slice u v w]) fun H I J =>
 T.aD [((m.add 1),[.slice r s t]),(m,[.slice o p q])] <|
 T.ar D [.slice A B C,.slice E F G,aS,.slice H I J] <|
 T.loop [aK] [vI 0] fun K =>
 T.af (m.add 2) [.slice 88] fun L M N =>
 bn K M
 (T.af (D.add 2) [.slice 88] fun O P Q =>
 T.af (m.add 2) [.slice 88] fun R S U =>
 aY K S R fun V =>
 T.af (V.add (ay K 3)) [.string] fun W =>
 T.af (m.add 2) [.slice 88] fun X Y Z =>
 aY K Y X fun a0 =>
 T.af ((a0.add (ay K 3)).add 1) (yL 66) fun a1 a2 a3 a4 =>
 bz 57 [.agg #[.slice a1 a2 a3,ax a4]] false [(true,(yL 66))] fun a5 a6 a7 a8 =>
 T.aD [((m.add 2),[.slice X Y Z]),((V.add (ay K 3)),[.string W]),((m.add 2),[.slice R S U]),((D.add 2),[.slice O P Q])] <|
 aT (Instr.buildSlice 27 1 #[(0,.agg #[.string W,.slice a5 a6 a7,ax a8])]) fun a9 b0 b1 =>
 T.aD [(((a0.add (ay K 3)).add 1),[.slice a1 a2 a3,ax a4]),((m.add 2),[.slice X Y Z]),((V.add (ay K 3)),[.string W]),((m.add 2),[.slice R S U]),((D.add 2),[.slice O P Q])] <|
 aT (Builtin.append_ #[27,27] 27 #[.slice O P Q,.slice a9 b0 b1]) fun b2 b3 b4 =>
 T.aD [(((a0.add (ay K 3)).add 1),[.slice a1 a2 a3,ax a4]),((m.add 2),[.slice X Y Z]),((V.add (ay K 3)),[.string W]),((m.add 2),[.slice R S U])] <|
 T.ar (D.add 2) [.slice b2 b3 b4] <|
 T.again 0 [bj K])
 (T.af D (yU 64 88) fun O P Q R S U V W X Y Z a0 =>
 T.ar n [.slice O P Q,.slice R S U,.slice V W X,.slice Y Z a0] <|
 T.af n (yU 64 88) fun a1 a2 a3 a4 a5 a6 a7 a8 a9 b0 b1 b2 =>
 T.ret (.agg #[.slice a1 a2 a3,.slice a4 a5 a6,.slice a7 a8 a9,.slice b0 b1 b2])))]),
 (T.new [aS,aS,aS,aS] 30 fun A =>
 T.aD [((m.add 3),[.slice u v w]),((m.add 1),[.slice r s t]),(m,[.slice o p q])] <|
 bz 52 [.slice o p q] false [(false,[.slice 64])] fun B C D =>
 T.aD [((m.add 3),[.slice u v w]),((m.add 1),[.slice r s t])] <|
 bz 52 [.slice r s t] false [(false,[.slice 64])] fun E F G =>
 T.aD [((m.add 3),[.slice u v w]),(m,[.slice o p q])] <|
 aT (Builtin.append_ #[28,28] 28 #[.slice x y z,.slice u v w]) fun H I J =>
 T.aD [((m.add 1),[.slice r s t]),(m,[.slice o p q])] <|
 T.ar A [.slice B C D,.slice E F G,aS,.slice H I J] <|
 T.loop [aK] [vI 0] fun K =>
 T.af (m.add 2) [.slice 88] fun L M N =>
 bn K M
 (T.af (A.add 2) [.slice 88] fun O P Q =>
 T.af (m.add 2) [.slice 88] fun R S U =>
 aY K S R fun V =>
 T.af (V.add (ay K 3)) [.string] fun W =>
 T.af (m.add 2) [.slice 88] fun X Y Z =>
 aY K Y X fun a0 =>
 T.af ((a0.add (ay K 3)).add 1) (yL 66) fun a1 a2 a3 a4 =>
 bz 57 [.agg #[.slice a1 a2 a3,ax a4]] false [(true,(yL 66))] fun a5 a6 a7 a8 =>
 T.aD [((m.add 2),[.slice X Y Z]),((V.add (ay K 3)),[.string W]),((m.add 2),[.slice R S U]),((A.add 2),[.slice O P Q])] <|
 aT (Instr.buildSlice 27 1 #[(0,.agg #[.string W,.slice a5 a6 a7,ax a8])]) fun a9 b0 b1 =>
 T.aD [(((a0.add (ay K 3)).add 1),[.slice a1 a2 a3,ax a4]),((m.add 2),[.slice X Y Z]),((V.add (ay K 3)),[.string W]),((m.add 2),[.slice R S U]),((A.add 2),[.slice O P Q])] <|
 aT (Builtin.append_ #[27,27] 27 #[.slice O P Q,.slice a9 b0 b1]) fun b2 b3 b4 =>
 T.aD [(((a0.add (ay K 3)).add 1),[.slice a1 a2 a3,ax a4]),((m.add 2),[.slice X Y Z]),((V.add (ay K 3)),[.string W]),((m.add 2),[.slice R S U])] <|
 T.ar (A.add 2) [.slice b2 b3 b4] <|
 T.again 0 [bj K])
 (T.af A (yU 64 88) fun O P Q R S U V W X Y Z a0 =>
 T.ar n [.slice O P Q,.slice R S U,.slice V W X,.slice Y Z a0] <|
 T.af n (yU 64 88) fun a1 a2 a3 a4 a5 a6 a7 a8 a9 b0 b1 b2 =>
 T.ret (.agg #[.slice a1 a2 a3,.slice a4 a5 a6,.slice a7 a8 a9,.slice b0 b1 b2])))]),
 (T.new [aS,aS,aS,aS] 30 fun x =>
 T.aD [((m.add 3),[.slice u v w]),((m.add 1),[.slice r s t]),(m,[.slice o p q])] <|
 T.all [ (bz 52 [.slice o p q] false [(false,[.slice 64])] fun y z A =>
 T.aD [((m.add 3),[.slice u v w]),((m.add 1),[.slice r s t])] <|
 T.all [ (bz 52 [.slice r s t] false [(false,[.slice 64])] fun B C D =>
 T.aD [((m.add 3),[.slice u v w]),(m,[.slice o p q])] <|
 aT (Instr.buildSlice 28 0 #[]) fun E F G =>
 T.aD [((m.add 3),[.slice u v w]),((m.add 1),[.slice r s t]),(m,[.slice o p q])] <|
 aT (Builtin.append_ #[28,28] 28 #[.slice E F G,.slice u v w]) fun H I J =>
 T.aD [((m.add 1),[.slice r s t]),(m,[.slice o p q])] <|
 T.ar x [.slice y z A,.slice B C D,aS,.slice H I J] <|
 T.loop [aK] [vI 0] fun K =>
 T.af (m.add 2) [.slice 88] fun L M N =>
 bn K M
 (T.af (x.add 2) [.slice 88] fun O P Q =>
 T.af (m.add 2) [.slice 88] fun R S U =>
 aY K S R fun V =>
 T.af (V.add (ay K 3)) [.string] fun W =>
 T.af (m.add 2) [.slice 88] fun X Y Z =>
 aY K Y X fun a0 =>
 T.af ((a0.add (ay K 3)).add 1) (yL 66) fun a1 a2 a3 a4 =>
 bz 57 [.agg #[.slice a1 a2 a3,ax a4]] false [(true,(yL 66))] fun a5 a6 a7 a8 =>
 T.aD [((m.add 2),[.slice X Y Z]),((V.add (ay K 3)),[.string W]),((m.add 2),[.slice R S U]),((x.add 2),[.slice O P Q])] <|
 aT (Instr.buildSlice 27 1 #[(0,.agg #[.string W,.slice a5 a6 a7,ax a8])]) fun a9 b0 b1 =>
 T.aD [(((a0.add (ay K 3)).add 1),[.slice a1 a2 a3,ax a4]),((m.add 2),[.slice X Y Z]),((V.add (ay K 3)),[.string W]),((m.add 2),[.slice R S U]),((x.add 2),[.slice O P Q])] <|
 aT (Builtin.append_ #[27,27] 27 #[.slice O P Q,.slice a9 b0 b1]) fun b2 b3 b4 =>
 T.aD [(((a0.add (ay K 3)).add 1),[.slice a1 a2 a3,ax a4]),((m.add 2),[.slice X Y Z]),((V.add (ay K 3)),[.string W]),((m.add 2),[.slice R S U])] <|
 T.ar (x.add 2) [.slice b2 b3 b4] <|
 T.again 0 [bj K])
 (T.af x (yU 64 88) fun O P Q R S U V W X Y Z a0 =>
 T.ar n [.slice O P Q,.slice R S U,.slice V W X,.slice Y Z a0] <|
 T.af n (yU 64 88) fun a1 a2 a3 a4 a5 a6 a7 a8 a9 b0 b1 b2 =>
 T.ret (.agg #[.slice a1 a2 a3,.slice a4 a5 a6,.slice a7 a8 a9,.slice b0 b1 b2]))),
 (aT (Instr.buildSlice 28 0 #[]) fun B C D =>
 T.aD [((m.add 3),[.slice u v w]),((m.add 1),[.slice r s t]),(m,[.slice o p q])] <|
 bz 52 [.slice r s t] false [(false,[.slice 64])] fun E F G =>
 T.aD [((m.add 3),[.slice u v w]),(m,[.slice o p q])] <|
 aT (Builtin.append_ #[28,28] 28 #[.slice B C D,.slice u v w]) fun H I J =>
 T.aD [((m.add 1),[.slice r s t]),(m,[.slice o p q])] <|
 T.ar x [.slice y z A,.slice E F G,aS,.slice H I J] <|
 T.loop [aK] [vI 0] fun K =>
 T.af (m.add 2) [.slice 88] fun L M N =>
 bn K M
 (T.af (x.add 2) [.slice 88] fun O P Q =>
 T.af (m.add 2) [.slice 88] fun R S U =>
 aY K S R fun V =>
 T.af (V.add (ay K 3)) [.string] fun W =>
 T.af (m.add 2) [.slice 88] fun X Y Z =>
 aY K Y X fun a0 =>
 T.af ((a0.add (ay K 3)).add 1) (yL 66) fun a1 a2 a3 a4 =>
 bz 57 [.agg #[.slice a1 a2 a3,ax a4]] false [(true,(yL 66))] fun a5 a6 a7 a8 =>
 T.aD [((m.add 2),[.slice X Y Z]),((V.add (ay K 3)),[.string W]),((m.add 2),[.slice R S U]),((x.add 2),[.slice O P Q])] <|
 aT (Instr.buildSlice 27 1 #[(0,.agg #[.string W,.slice a5 a6 a7,ax a8])]) fun a9 b0 b1 =>
 T.aD [(((a0.add (ay K 3)).add 1),[.slice a1 a2 a3,ax a4]),((m.add 2),[.slice X Y Z]),((V.add (ay K 3)),[.string W]),((m.add 2),[.slice R S U]),((x.add 2),[.slice O P Q])] <|
 aT (Builtin.append_ #[27,27] 27 #[.slice O P Q,.slice a9 b0 b1]) fun b2 b3 b4 =>
 T.aD [(((a0.add (ay K 3)).add 1),[.slice a1 a2 a3,ax a4]),((m.add 2),[.slice X Y Z]),((V.add (ay K 3)),[.string W]),((m.add 2),[.slice R S U])] <|
 T.ar (x.add 2) [.slice b2 b3 b4] <|
 T.again 0 [bj K])
 (T.af x (yU 64 88) fun O P Q R S U V W X Y Z a0 =>
 T.ar n [.slice O P Q,.slice R S U,.slice V W X,.slice Y Z a0] <|
 T.af n (yU 64 88) fun a1 a2 a3 a4 a5 a6 a7 a8 a9 b0 b1 b2 =>
 T.ret (.agg #[.slice a1 a2 a3,.slice a4 a5 a6,.slice a7 a8 a9,.slice b0 b1 b2])))]),
 (aT (Instr.buildSlice 28 0 #[]) fun y z A =>
 T.aD [((m.add 3),[.slice u v w]),((m.add 1),[.slice r s t]),(m,[.slice o p q])] <|
 bz 52 [.slice o p q] false [(false,[.slice 64])] fun B C D =>
 T.aD [((m.add 3),[.slice u v w]),((m.add 1),[.slice r s t])] <|
 bz 52 [.slice r s t] false [(false,[.slice 64])] fun E F G =>
 T.aD [((m.add 3),[.slice u v w]),(m,[.slice o p q])] <|
 aT (Builtin.append_ #[28,28] 28 #[.slice y z A,.slice u v w]) fun H I J =>
 T.aD [((m.add 1),[.slice r s t]),(m,[.slice o p q])] <|
 T.ar x [.slice B C D,.slice E F G,aS,.slice H I J] <|
 T.loop [aK] [vI 0] fun K =>
 T.af (m.add 2) [.slice 88] fun L M N =>
 bn K M
 (T.af (x.add 2) [.slice 88] fun O P Q =>
 T.af (m.add 2) [.slice 88] fun R S U =>
 aY K S R fun V =>
 T.af (V.add (ay K 3)) [.string] fun W =>
 T.af (m.add 2) [.slice 88] fun X Y Z =>
 aY K Y X fun a0 =>
 T.af ((a0.add (ay K 3)).add 1) (yL 66) fun a1 a2 a3 a4 =>
 bz 57 [.agg #[.slice a1 a2 a3,ax a4]] false [(true,(yL 66))] fun a5 a6 a7 a8 =>
 T.aD [((m.add 2),[.slice X Y Z]),((V.add (ay K 3)),[.string W]),((m.add 2),[.slice R S U]),((x.add 2),[.slice O P Q])] <|
 aT (Instr.buildSlice 27 1 #[(0,.agg #[.string W,.slice a5 a6 a7,ax a8])]) fun a9 b0 b1 =>
 T.aD [(((a0.add (ay K 3)).add 1),[.slice a1 a2 a3,ax a4]),((m.add 2),[.slice X Y Z]),((V.add (ay K 3)),[.string W]),((m.add 2),[.slice R S U]),((x.add 2),[.slice O P Q])] <|
 aT (Builtin.append_ #[27,27] 27 #[.slice O P Q,.slice a9 b0 b1]) fun b2 b3 b4 =>
 T.aD [(((a0.add (ay K 3)).add 1),[.slice a1 a2 a3,ax a4]),((m.add 2),[.slice X Y Z]),((V.add (ay K 3)),[.string W]),((m.add 2),[.slice R S U])] <|
 T.ar (x.add 2) [.slice b2 b3 b4] <|
 T.again 0 [bj K])
 (T.af x (yU 64 88) fun O P Q R S U V W X Y Z a0 =>
 T.ar n [.slice O P Q,.slice R S U,.slice V W X,.slice Y Z a0] <|
 T.af n (yU 64 88) fun a1 a2 a3 a4 a5 a6 a7 a8 a9 b0 b1 b2 =>
 T.ret (.agg #[.slice a1 a2 a3,.slice a4 a5 a6,.slice a7 a8 a9,.slice b0 b1 b2])))])]
def mZ (a:Xac) (b c:Nat) (d:Xac) (e f:Nat) (g:Xac) (h i:Nat) (j:Xac) (k l:Nat):bS Xaz [] Tryz.f23 [.agg #[.slice a b c,.slice d e f,.slice g h i,.slice j k l]]=iU a b c d e f g h i j k l:=aw
end Go.Sx
