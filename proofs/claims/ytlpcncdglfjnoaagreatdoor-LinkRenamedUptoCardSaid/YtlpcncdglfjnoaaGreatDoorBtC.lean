/- Trees of functions. No condition. -/
import Derived.Test.YtlpcncdglfjnoaaGreatDoorSxF
import Derived.Test.YtlpcncdglfjnoaaGreatDoorProg
import Derived.KernelRfl
set_option linter.all false
set_option maxRecDepth 100000
set_option maxHeartbeats 4000000
namespace Go.Sx
open Go.Proofs
def gH (a:Int) (b:XA) (c d e f g:Int) (h:XC) (i j:Nat) (k l m:Int) (n:XA) (o p q r s:Int) (t:XC) (u v:Nat) (w x:Int):T :=
 T.new [vI a,.string b,vI c,vI d,vI e,.int .i32 f,vI g,.slice h i j,ar k,vI l] 64 fun y =>
 T.new [vI m,.string n,vI o,vI p,vI q,.int .i32 r,vI s,.slice t u v,ar w,vI x] 64 fun z =>
 T.ae y [.int .i64] fun A =>
 T.ae z [.int .i64] fun B =>
 cond (A==B)
 (T.ae (y.add 1) [.string] fun C =>
 T.ae (z.add 1) [.string] fun D =>
 cond ((ByteArray.toList C)==(ByteArray.toList D))
 (T.ae (y.add 2) [.int .i64,.int .i64,.int .i64,.int .i32,.int .i64] fun E F G H I =>
 T.ae (z.add 2) [.int .i64,.int .i64,.int .i64,.int .i32,.int .i64] fun J K L M N =>
 eh (Sx.j6 (BinOp.eql) 62 (Operand.tmp 19) (Operand.tmp 21) (.agg #[vI E,vI F,vI G,.int .i32 H,vI I]) (.agg #[vI J,vI K,vI L,.int .i32 M,vI N])) fun O =>
 cond O
 (T.ae (y.add 7) (yL 66) fun P Q R S =>
 T.ae (z.add 7) (yL 66) fun U V W X =>
 aP 88 [.agg #[.slice P Q R,ar S],.agg #[.slice U V W,ar X]] fun Y =>
 cond Y
 (T.ae (y.add 9) [.int .i64] fun Z =>
 T.ae (z.add 9) [.int .i64] fun a0 =>
 T.ret (.bool (Z==a0)))
 bz)
 bz)
 bz)
 bz
def kN (a:Int) (b:XA) (c d e f g:Int) (h:XC) (i j:Nat) (k l m:Int) (n:XA) (o p q r s:Int) (t:XC) (u v:Nat) (w x:Int):bQ YC [] Tryz.f51 [.agg #[vI a,.string b,vI c,vI d,vI e,.int .i32 f,vI g,.slice h i j,.int .u32 k,vI l],.agg #[vI m,.string n,vI o,vI p,vI q,.int .i32 r,vI s,.slice t u v,.int .u32 w,vI x]]=gH a b c d e f g h i j k l m n o p q r s t u v w x:=aw
def mE (a:XC) (b c:Nat) (d:XC) (e f:Nat):T :=
 cond ((b:Int) != (e:Int))
 (T.ret (.bool false))
 (T.loop [(false,[.bool]),(false,[.int .i64])] [.bool false,vI 0] fun g h =>
 cond (decide (h<(b:Int)))
 (T.need ((0<=h)/\(h<(b:Int))) <|
 T.bd a fun i =>
 T.ae (i.add ((Int.toNat h)*10)) (yI 66) fun j k l m n o p q r s t u =>
 T.need ((0<=h)/\(h<(e:Int))) <|
 T.bd d fun v =>
 T.ae (v.add ((Int.toNat h)*10)) (yI 66) fun w x y z A B C D E F G H =>
 T.call YC 51 [.agg #[vI j,.string k,vI l,vI m,vI n,.int .i32 o,vI p,.slice q r s,.int .u32 t,vI u],.agg #[vI w,.string x,vI y,vI z,vI A,.int .i32 B,vI C,.slice D E F,.int .u32 G,vI H]] false [(false,[.bool])] fun I =>
 cond (!I)
 (T.ret (.bool false))
 (T.again 0 [.bool g,vI (IntKind.wrap .i64 (h+1))]))
 (T.ret (.bool true)))
def j9 (a:XC) (b c:Nat) (d:XC) (e f:Nat):bQ YC [] Tryz.f15 [.slice a b c,.slice d e f]=mE a b c d e f:=aw
def jx (a:XC) (b c:Nat):T :=
 T.loop [cj,aK,aK] [.bool false,vI 0,vI 0] fun d e f =>
 bC f b
 (cond (decide (f<65))
 (aT f b a fun g =>
 T.ae (g.add (ay f 4)) [.slice 64] fun h i j =>
 cond (decide ((i:Int)>600))
 dI
 (aT f b a fun k =>
 T.ae ((k.add (ay f 4)).add 1) [.slice 64] fun l m n =>
 cond (decide ((m:Int)>300))
 dI
 (aT f b a fun o =>
 T.ae ((o.add (ay f 4)).add 2) [.slice 88] fun p q r =>
 cond (decide ((q:Int)>100))
 dI
 (aT f b a fun s =>
 T.ae (s.add (ay f 4)) [.slice 64] fun t u v =>
 aT f b a fun w =>
 T.ae ((w.add (ay f 4)).add 1) [.slice 64] fun x y z =>
 aT f b a fun A =>
 T.ae ((A.add (ay f 4)).add 2) [.slice 88] fun B C D =>
 T.again 0 [.bool d,vI (bf ((bf ((bf (e+(u:Int)))+(y:Int)))+(C:Int))),bo f]))))
 (T.ret (.bool (decide (e>900)))))
 (T.ret (.bool (decide (e>900))))
def nV (a:XC) (b c:Nat):bQ YC [] Tryz.f8 [.slice a b c]=jx a b c:=aw
def gJ (a:XC) (b c:Nat) (d:XC) (e f:Nat) (g:XC) (h i:Nat) (j:XC) (k l:Nat):T :=
 T.new [.slice a b c,.slice d e f,.slice g h i,.slice j k l] 30 fun m =>
 T.new [aM,aM,aM,aM] 30 fun n =>
 T.ae m [.slice 64] fun o p q =>
 T.ae (m.add 1) [.slice 64] fun r s t =>
 T.ae (m.add 3) [.slice 9] fun u v w =>
 T.all [ (bq 52 [.slice o p q] false [(false,[.slice 64])] fun x y z =>
 T.az [((m.add 3),[.slice u v w]),((m.add 1),[.slice r s t])] <|
 T.all [ (bq 52 [.slice r s t] false [(false,[.slice 64])] fun A B C =>
 T.az [((m.add 3),[.slice u v w]),(m,[.slice o p q])] <|
 T.all [ (aR (Instr.buildSlice 28 0 #[]) fun D E F =>
 T.az [((m.add 3),[.slice u v w]),((m.add 1),[.slice r s t]),(m,[.slice o p q])] <|
 T.all [ (aR (Builtin.append_ #[28,28] 28 #[.slice D E F,.slice u v w]) fun G H I =>
 T.az [((m.add 1),[.slice r s t]),(m,[.slice o p q])] <|
 T.new [aM,aM,aM,aM] 30 fun J =>
 T.az [((m.add 3),[.slice u v w]),((m.add 1),[.slice r s t]),(m,[.slice o p q])] <|
 T.ao J [.slice x y z,.slice A B C,aM,.slice G H I] <|
 T.loop [aK] [vI 0] fun K =>
 T.ae (m.add 2) [.slice 88] fun L M N =>
 bC K M
 (T.ae (J.add 2) [.slice 88] fun O P Q =>
 T.ae (m.add 2) [.slice 88] fun R S U =>
 aT K S R fun V =>
 T.ae (V.add (ay K 3)) [.string] fun W =>
 T.ae (m.add 2) [.slice 88] fun X Y Z =>
 aT K Y X fun a0 =>
 T.ae ((a0.add (ay K 3)).add 1) (yL 66) fun a1 a2 a3 a4 =>
 bq 57 [.agg #[.slice a1 a2 a3,ar a4]] false [(true,(yL 66))] fun a5 a6 a7 a8 =>
 T.az [((m.add 2),[.slice X Y Z]),((V.add (ay K 3)),[.string W]),((m.add 2),[.slice R S U]),((J.add 2),[.slice O P Q])] <|
 aR (Instr.buildSlice 27 1 #[(0,.agg #[.string W,.slice a5 a6 a7,ar a8])]) fun a9 b0 b1 =>
 T.az [(((a0.add (ay K 3)).add 1),[.slice a1 a2 a3,ar a4]),((m.add 2),[.slice X Y Z]),((V.add (ay K 3)),[.string W]),((m.add 2),[.slice R S U]),((J.add 2),[.slice O P Q])] <|
 aR (Builtin.append_ #[27,27] 27 #[.slice O P Q,.slice a9 b0 b1]) fun b2 b3 b4 =>
 T.az [(((a0.add (ay K 3)).add 1),[.slice a1 a2 a3,ar a4]),((m.add 2),[.slice X Y Z]),((V.add (ay K 3)),[.string W]),((m.add 2),[.slice R S U])] <|
 T.ao (J.add 2) [.slice b2 b3 b4] <|
 T.again 0 [bo K])
 (T.ae J (yU 64 88) fun O P Q R S U V W X Y Z a0 =>
 T.ao n [.slice O P Q,.slice R S U,.slice V W X,.slice Y Z a0] <|
 T.ae n (yU 64 88) fun a1 a2 a3 a4 a5 a6 a7 a8 a9 b0 b1 b2 =>
 T.ret (.agg #[.slice a1 a2 a3,.slice a4 a5 a6,.slice a7 a8 a9,.slice b0 b1 b2]))),
 (T.new [aM,aM,aM,aM] 30 fun G =>
 T.az [((m.add 3),[.slice u v w]),((m.add 1),[.slice r s t]),(m,[.slice o p q])] <|
 aR (Builtin.append_ #[28,28] 28 #[.slice D E F,.slice u v w]) fun H I J =>
 T.az [((m.add 1),[.slice r s t]),(m,[.slice o p q])] <|
 T.ao G [.slice x y z,.slice A B C,aM,.slice H I J] <|
 T.loop [aK] [vI 0] fun K =>
 T.ae (m.add 2) [.slice 88] fun L M N =>
 bC K M
 (T.ae (G.add 2) [.slice 88] fun O P Q =>
 T.ae (m.add 2) [.slice 88] fun R S U =>
 aT K S R fun V =>
 T.ae (V.add (ay K 3)) [.string] fun W =>
 T.ae (m.add 2) [.slice 88] fun X Y Z =>
 aT K Y X fun a0 =>
 T.ae ((a0.add (ay K 3)).add 1) (yL 66) fun a1 a2 a3 a4 =>
 bq 57 [.agg #[.slice a1 a2 a3,ar a4]] false [(true,(yL 66))] fun a5 a6 a7 a8 =>
 T.az [((m.add 2),[.slice X Y Z]),((V.add (ay K 3)),[.string W]),((m.add 2),[.slice R S U]),((G.add 2),[.slice O P Q])] <|
 aR (Instr.buildSlice 27 1 #[(0,.agg #[.string W,.slice a5 a6 a7,ar a8])]) fun a9 b0 b1 =>
 T.az [(((a0.add (ay K 3)).add 1),[.slice a1 a2 a3,ar a4]),((m.add 2),[.slice X Y Z]),((V.add (ay K 3)),[.string W]),((m.add 2),[.slice R S U]),((G.add 2),[.slice O P Q])] <|
 aR (Builtin.append_ #[27,27] 27 #[.slice O P Q,.slice a9 b0 b1]) fun b2 b3 b4 =>
 T.az [(((a0.add (ay K 3)).add 1),[.slice a1 a2 a3,ar a4]),((m.add 2),[.slice X Y Z]),((V.add (ay K 3)),[.string W]),((m.add 2),[.slice R S U])] <|
 T.ao (G.add 2) [.slice b2 b3 b4] <|
 T.again 0 [bo K])
 (T.ae G (yU 64 88) fun O P Q R S U V W X Y Z a0 =>
 T.ao n [.slice O P Q,.slice R S U,.slice V W X,.slice Y Z a0] <|
 T.ae n (yU 64 88) fun a1 a2 a3 a4 a5 a6 a7 a8 a9 b0 b1 b2 =>
 T.ret (.agg #[.slice a1 a2 a3,.slice a4 a5 a6,.slice a7 a8 a9,.slice b0 b1 b2])))]),
 (T.new [aM,aM,aM,aM] 30 fun D =>
 T.az [((m.add 3),[.slice u v w]),((m.add 1),[.slice r s t]),(m,[.slice o p q])] <|
 aR (Instr.buildSlice 28 0 #[]) fun E F G =>
 T.az [((m.add 3),[.slice u v w]),((m.add 1),[.slice r s t]),(m,[.slice o p q])] <|
 aR (Builtin.append_ #[28,28] 28 #[.slice E F G,.slice u v w]) fun H I J =>
 T.az [((m.add 1),[.slice r s t]),(m,[.slice o p q])] <|
 T.ao D [.slice x y z,.slice A B C,aM,.slice H I J] <|
 T.loop [aK] [vI 0] fun K =>
 T.ae (m.add 2) [.slice 88] fun L M N =>
 bC K M
 (T.ae (D.add 2) [.slice 88] fun O P Q =>
 T.ae (m.add 2) [.slice 88] fun R S U =>
 aT K S R fun V =>
 T.ae (V.add (ay K 3)) [.string] fun W =>
 T.ae (m.add 2) [.slice 88] fun X Y Z =>
 aT K Y X fun a0 =>
 T.ae ((a0.add (ay K 3)).add 1) (yL 66) fun a1 a2 a3 a4 =>
 bq 57 [.agg #[.slice a1 a2 a3,ar a4]] false [(true,(yL 66))] fun a5 a6 a7 a8 =>
 T.az [((m.add 2),[.slice X Y Z]),((V.add (ay K 3)),[.string W]),((m.add 2),[.slice R S U]),((D.add 2),[.slice O P Q])] <|
 aR (Instr.buildSlice 27 1 #[(0,.agg #[.string W,.slice a5 a6 a7,ar a8])]) fun a9 b0 b1 =>
 T.az [(((a0.add (ay K 3)).add 1),[.slice a1 a2 a3,ar a4]),((m.add 2),[.slice X Y Z]),((V.add (ay K 3)),[.string W]),((m.add 2),[.slice R S U]),((D.add 2),[.slice O P Q])] <|
 aR (Builtin.append_ #[27,27] 27 #[.slice O P Q,.slice a9 b0 b1]) fun b2 b3 b4 =>
 T.az [(((a0.add (ay K 3)).add 1),[.slice a1 a2 a3,ar a4]),((m.add 2),[.slice X Y Z]),((V.add (ay K 3)),[.string W]),((m.add 2),[.slice R S U])] <|
 T.ao (D.add 2) [.slice b2 b3 b4] <|
 T.again 0 [bo K])
 (T.ae D (yU 64 88) fun O P Q R S U V W X Y Z a0 =>
 T.ao n [.slice O P Q,.slice R S U,.slice V W X,.slice Y Z a0] <|
 T.ae n (yU 64 88) fun a1 a2 a3 a4 a5 a6 a7 a8 a9 b0 b1 b2 =>
 T.ret (.agg #[.slice a1 a2 a3,.slice a4 a5 a6,.slice a7 a8 a9,.slice b0 b1 b2])))]),
 (aR (Instr.buildSlice 28 0 #[]) fun A B C =>
 T.az [((m.add 3),[.slice u v w]),((m.add 1),[.slice r s t]),(m,[.slice o p q])] <|
 T.all [ (bq 52 [.slice r s t] false [(false,[.slice 64])] fun D E F =>
 T.az [((m.add 3),[.slice u v w]),(m,[.slice o p q])] <|
 T.all [ (aR (Builtin.append_ #[28,28] 28 #[.slice A B C,.slice u v w]) fun G H I =>
 T.az [((m.add 1),[.slice r s t]),(m,[.slice o p q])] <|
 T.new [aM,aM,aM,aM] 30 fun J =>
 T.az [((m.add 3),[.slice u v w]),((m.add 1),[.slice r s t]),(m,[.slice o p q])] <|
 T.ao J [.slice x y z,.slice D E F,aM,.slice G H I] <|
 T.loop [aK] [vI 0] fun K =>
 T.ae (m.add 2) [.slice 88] fun L M N =>
 bC K M
 (T.ae (J.add 2) [.slice 88] fun O P Q =>
 T.ae (m.add 2) [.slice 88] fun R S U =>
 aT K S R fun V =>
 T.ae (V.add (ay K 3)) [.string] fun W =>
 T.ae (m.add 2) [.slice 88] fun X Y Z =>
 aT K Y X fun a0 =>
 T.ae ((a0.add (ay K 3)).add 1) (yL 66) fun a1 a2 a3 a4 =>
 bq 57 [.agg #[.slice a1 a2 a3,ar a4]] false [(true,(yL 66))] fun a5 a6 a7 a8 =>
 T.az [((m.add 2),[.slice X Y Z]),((V.add (ay K 3)),[.string W]),((m.add 2),[.slice R S U]),((J.add 2),[.slice O P Q])] <|
 aR (Instr.buildSlice 27 1 #[(0,.agg #[.string W,.slice a5 a6 a7,ar a8])]) fun a9 b0 b1 =>
 T.az [(((a0.add (ay K 3)).add 1),[.slice a1 a2 a3,ar a4]),((m.add 2),[.slice X Y Z]),((V.add (ay K 3)),[.string W]),((m.add 2),[.slice R S U]),((J.add 2),[.slice O P Q])] <|
 aR (Builtin.append_ #[27,27] 27 #[.slice O P Q,.slice a9 b0 b1]) fun b2 b3 b4 =>
 T.az [(((a0.add (ay K 3)).add 1),[.slice a1 a2 a3,ar a4]),((m.add 2),[.slice X Y Z]),((V.add (ay K 3)),[.string W]),((m.add 2),[.slice R S U])] <|
 T.ao (J.add 2) [.slice b2 b3 b4] <|
 T.again 0 [bo K])
 (T.ae J (yU 64 88) fun O P Q R S U V W X Y Z a0 =>
 T.ao n [.slice O P Q,.slice R S U,.slice V W X,.slice Y Z a0] <|
 T.ae n (yU 64 88) fun a1 a2 a3 a4 a5 a6 a7 a8 a9 b0 b1 b2 =>
 T.ret (.agg #[.slice a1 a2 a3,.slice a4 a5 a6,.slice a7 a8 a9,.slice b0 b1 b2]))),
 (T.new [aM,aM,aM,aM] 30 fun G =>
 T.az [((m.add 3),[.slice u v w]),((m.add 1),[.slice r s t]),(m,[.slice o p q])] <|
 aR (Builtin.append_ #[28,28] 28 #[.slice A B C,.slice u v w]) fun H I J =>
 T.az [((m.add 1),[.slice r s t]),(m,[.slice o p q])] <|
 T.ao G [.slice x y z,.slice D E F,aM,.slice H I J] <|
 T.loop [aK] [vI 0] fun K =>
 T.ae (m.add 2) [.slice 88] fun L M N =>
 bC K M
 (T.ae (G.add 2) [.slice 88] fun O P Q =>
 T.ae (m.add 2) [.slice 88] fun R S U =>
 aT K S R fun V =>
 T.ae (V.add (ay K 3)) [.string] fun W =>
 T.ae (m.add 2) [.slice 88] fun X Y Z =>
 aT K Y X fun a0 =>
 T.ae ((a0.add (ay K 3)).add 1) (yL 66) fun a1 a2 a3 a4 =>
 bq 57 [.agg #[.slice a1 a2 a3,ar a4]] false [(true,(yL 66))] fun a5 a6 a7 a8 =>
 T.az [((m.add 2),[.slice X Y Z]),((V.add (ay K 3)),[.string W]),((m.add 2),[.slice R S U]),((G.add 2),[.slice O P Q])] <|
 aR (Instr.buildSlice 27 1 #[(0,.agg #[.string W,.slice a5 a6 a7,ar a8])]) fun a9 b0 b1 =>
 T.az [(((a0.add (ay K 3)).add 1),[.slice a1 a2 a3,ar a4]),((m.add 2),[.slice X Y Z]),((V.add (ay K 3)),[.string W]),((m.add 2),[.slice R S U]),((G.add 2),[.slice O P Q])] <|
 aR (Builtin.append_ #[27,27] 27 #[.slice O P Q,.slice a9 b0 b1]) fun b2 b3 b4 =>
 T.az [(((a0.add (ay K 3)).add 1),[.slice a1 a2 a3,ar a4]),((m.add 2),[.slice X Y Z]),((V.add (ay K 3)),[.string W]),((m.add 2),[.slice R S U])] <|
 T.ao (G.add 2) [.slice b2 b3 b4] <|
 T.again 0 [bo K])
 (T.ae G (yU 64 88) fun O P Q R S U V W X Y Z a0 =>
 T.ao n [.slice O P Q,.slice R S U,.slice V W X,.slice Y Z a0] <|
 T.ae n (yU 64 88) fun a1 a2 a3 a4 a5 a6 a7 a8 a9 b0 b1 b2 =>
 T.ret (.agg #[.slice a1 a2 a3,.slice a4 a5 a6,.slice a7 a8 a9,.slice b0 b1 b2])))]),
 (T.new [aM,aM,aM,aM] 30 fun D =>
 T.az [((m.add 3),[.slice u v w]),((m.add 1),[.slice r s t]),(m,[.slice o p q])] <|
 bq 52 [.slice r s t] false [(false,[.slice 64])] fun E F G =>
 T.az [((m.add 3),[.slice u v w]),(m,[.slice o p q])] <|
 aR (Builtin.append_ #[28,28] 28 #[.slice A B C,.slice u v w]) fun H I J =>
 T.az [((m.add 1),[.slice r s t]),(m,[.slice o p q])] <|
 T.ao D [.slice x y z,.slice E F G,aM,.slice H I J] <|
 T.loop [aK] [vI 0] fun K =>
 T.ae (m.add 2) [.slice 88] fun L M N =>
 bC K M
 (T.ae (D.add 2) [.slice 88] fun O P Q =>
 T.ae (m.add 2) [.slice 88] fun R S U =>
 aT K S R fun V =>
 T.ae (V.add (ay K 3)) [.string] fun W =>
 T.ae (m.add 2) [.slice 88] fun X Y Z =>
 aT K Y X fun a0 =>
 T.ae ((a0.add (ay K 3)).add 1) (yL 66) fun a1 a2 a3 a4 =>
 bq 57 [.agg #[.slice a1 a2 a3,ar a4]] false [(true,(yL 66))] fun a5 a6 a7 a8 =>
 T.az [((m.add 2),[.slice X Y Z]),((V.add (ay K 3)),[.string W]),((m.add 2),[.slice R S U]),((D.add 2),[.slice O P Q])] <|
 aR (Instr.buildSlice 27 1 #[(0,.agg #[.string W,.slice a5 a6 a7,ar a8])]) fun a9 b0 b1 =>
 T.az [(((a0.add (ay K 3)).add 1),[.slice a1 a2 a3,ar a4]),((m.add 2),[.slice X Y Z]),((V.add (ay K 3)),[.string W]),((m.add 2),[.slice R S U]),((D.add 2),[.slice O P Q])] <|
 aR (Builtin.append_ #[27,27] 27 #[.slice O P Q,.slice a9 b0 b1]) fun b2 b3 b4 =>
 T.az [(((a0.add (ay K 3)).add 1),[.slice a1 a2 a3,ar a4]),((m.add 2),[.slice X Y Z]),((V.add (ay K 3)),[.string W]),((m.add 2),[.slice R S U])] <|
 T.ao (D.add 2) [.slice b2 b3 b4] <|
 T.again 0 [bo K])
 (T.ae D (yU 64 88) fun O P Q R S U V W X Y Z a0 =>
 T.ao n [.slice O P Q,.slice R S U,.slice V W X,.slice Y Z a0] <|
 T.ae n (yU 64 88) fun a1 a2 a3 a4 a5 a6 a7 a8 a9 b0 b1 b2 =>
 T.ret (.agg #[.slice a1 a2 a3,.slice a4 a5 a6,.slice a7 a8 a9,.slice b0 b1 b2])))]),
 (T.new [aM,aM,aM,aM] 30 fun A =>
 T.az [((m.add 3),[.slice u v w]),((m.add 1),[.slice r s t]),(m,[.slice o p q])] <|
 T.all [ (bq 52 [.slice r s t] false [(false,[.slice 64])] fun B C D =>
 T.az [((m.add 3),[.slice u v w]),(m,[.slice o p q])] <|
 aR (Instr.buildSlice 28 0 #[]) fun E F G =>
 T.az [((m.add 3),[.slice u v w]),((m.add 1),[.slice r s t]),(m,[.slice o p q])] <|
 aR (Builtin.append_ #[28,28] 28 #[.slice E F G,.slice u v w]) fun H I J =>
 T.az [((m.add 1),[.slice r s t]),(m,[.slice o p q])] <|
 T.ao A [.slice x y z,.slice B C D,aM,.slice H I J] <|
 T.loop [aK] [vI 0] fun K =>
 T.ae (m.add 2) [.slice 88] fun L M N =>
 bC K M
 (T.ae (A.add 2) [.slice 88] fun O P Q =>
 T.ae (m.add 2) [.slice 88] fun R S U =>
 aT K S R fun V =>
 T.ae (V.add (ay K 3)) [.string] fun W =>
 T.ae (m.add 2) [.slice 88] fun X Y Z =>
 aT K Y X fun a0 =>
 T.ae ((a0.add (ay K 3)).add 1) (yL 66) fun a1 a2 a3 a4 =>
 bq 57 [.agg #[.slice a1 a2 a3,ar a4]] false [(true,(yL 66))] fun a5 a6 a7 a8 =>
 T.az [((m.add 2),[.slice X Y Z]),((V.add (ay K 3)),[.string W]),((m.add 2),[.slice R S U]),((A.add 2),[.slice O P Q])] <|
 aR (Instr.buildSlice 27 1 #[(0,.agg #[.string W,.slice a5 a6 a7,ar a8])]) fun a9 b0 b1 =>
 T.az [(((a0.add (ay K 3)).add 1),[.slice a1 a2 a3,ar a4]),((m.add 2),[.slice X Y Z]),((V.add (ay K 3)),[.string W]),((m.add 2),[.slice R S U]),((A.add 2),[.slice O P Q])] <|
 aR (Builtin.append_ #[27,27] 27 #[.slice O P Q,.slice a9 b0 b1]) fun b2 b3 b4 =>
 T.az [(((a0.add (ay K 3)).add 1),[.slice a1 a2 a3,ar a4]),((m.add 2),[.slice X Y Z]),((V.add (ay K 3)),[.string W]),((m.add 2),[.slice R S U])] <|
 T.ao (A.add 2) [.slice b2 b3 b4] <|
 T.again 0 [bo K])
 (T.ae A (yU 64 88) fun O P Q R S U V W X Y Z a0 =>
 T.ao n [.slice O P Q,.slice R S U,.slice V W X,.slice Y Z a0] <|
 T.ae n (yU 64 88) fun a1 a2 a3 a4 a5 a6 a7 a8 a9 b0 b1 b2 =>
 T.ret (.agg #[.slice a1 a2 a3,.slice a4 a5 a6,.slice a7 a8 a9,.slice b0 b1 b2]))),
 (aR (Instr.buildSlice 28 0 #[]) fun B C D =>
 T.az [((m.add 3),[.slice u v w]),((m.add 1),[.slice r s t]),(m,[.slice o p q])] <|
 bq 52 [.slice r s t] false [(false,[.slice 64])] fun E F G =>
 T.az [((m.add 3),[.slice u v w]),(m,[.slice o p q])] <|
 aR (Builtin.append_ #[28,28] 28 #[.slice B C D,.slice u v w]) fun H I J =>
 T.az [((m.add 1),[.slice r s t]),(m,[.slice o p q])] <|
 T.ao A [.slice x y z,.slice E F G,aM,.slice H I J] <|
 T.loop [aK] [vI 0] fun K =>
 T.ae (m.add 2) [.slice 88] fun L M N =>
 bC K M
 (T.ae (A.add 2) [.slice 88] fun O P Q =>
 T.ae (m.add 2) [.slice 88] fun R S U =>
 aT K S R fun V =>
 T.ae (V.add (ay K 3)) [.string] fun W =>
 T.ae (m.add 2) [.slice 88] fun X Y Z =>
 aT K Y X fun a0 =>
 T.ae ((a0.add (ay K 3)).add 1) (yL 66) fun a1 a2 a3 a4 =>
 bq 57 [.agg #[.slice a1 a2 a3,ar a4]] false [(true,(yL 66))] fun a5 a6 a7 a8 =>
 T.az [((m.add 2),[.slice X Y Z]),((V.add (ay K 3)),[.string W]),((m.add 2),[.slice R S U]),((A.add 2),[.slice O P Q])] <|
 aR (Instr.buildSlice 27 1 #[(0,.agg #[.string W,.slice a5 a6 a7,ar a8])]) fun a9 b0 b1 =>
 T.az [(((a0.add (ay K 3)).add 1),[.slice a1 a2 a3,ar a4]),((m.add 2),[.slice X Y Z]),((V.add (ay K 3)),[.string W]),((m.add 2),[.slice R S U]),((A.add 2),[.slice O P Q])] <|
 aR (Builtin.append_ #[27,27] 27 #[.slice O P Q,.slice a9 b0 b1]) fun b2 b3 b4 =>
 T.az [(((a0.add (ay K 3)).add 1),[.slice a1 a2 a3,ar a4]),((m.add 2),[.slice X Y Z]),((V.add (ay K 3)),[.string W]),((m.add 2),[.slice R S U])] <|
 T.ao (A.add 2) [.slice b2 b3 b4] <|
 T.again 0 [bo K])
 (T.ae A (yU 64 88) fun O P Q R S U V W X Y Z a0 =>
 T.ao n [.slice O P Q,.slice R S U,.slice V W X,.slice Y Z a0] <|
 T.ae n (yU 64 88) fun a1 a2 a3 a4 a5 a6 a7 a8 a9 b0 b1 b2 =>
 T.ret (.agg #[.slice a1 a2 a3,.slice a4 a5 a6,.slice a7 a8 a9,.slice b0 b1 b2])))])]),
 (aR (Instr.buildSlice 28 0 #[]) fun x y z =>
 T.az [((m.add 3),[.slice u v w]),((m.add 1),[.slice r s t]),(m,[.slice o p q])] <|
 T.all [ (bq 52 [.slice o p q] false [(false,[.slice 64])] fun A B C =>
 T.az [((m.add 3),[.slice u v w]),((m.add 1),[.slice r s t])] <|
 T.all [ (bq 52 [.slice r s t] false [(false,[.slice 64])] fun D E F =>
 T.az [((m.add 3),[.slice u v w]),(m,[.slice o p q])] <|
 T.all [ (aR (Builtin.append_ #[28,28] 28 #[.slice x y z,.slice u v w]) fun G H I =>
 T.az [((m.add 1),[.slice r s t]),(m,[.slice o p q])] <|
 T.new [aM,aM,aM,aM] 30 fun J =>
 T.az [((m.add 3),[.slice u v w]),((m.add 1),[.slice r s t]),(m,[.slice o p q])] <|
 T.ao J [.slice A B C,.slice D E F,aM,.slice G H I] <|
 T.loop [aK] [vI 0] fun K =>
 T.ae (m.add 2) [.slice 88] fun L M N =>
 bC K M
 (T.ae (J.add 2) [.slice 88] fun O P Q =>
 T.ae (m.add 2) [.slice 88] fun R S U =>
 aT K S R fun V =>
 T.ae (V.add (ay K 3)) [.string] fun W =>
 T.ae (m.add 2) [.slice 88] fun X Y Z =>
 aT K Y X fun a0 =>
 T.ae ((a0.add (ay K 3)).add 1) (yL 66) fun a1 a2 a3 a4 =>
 bq 57 [.agg #[.slice a1 a2 a3,ar a4]] false [(true,(yL 66))] fun a5 a6 a7 a8 =>
 T.az [((m.add 2),[.slice X Y Z]),((V.add (ay K 3)),[.string W]),((m.add 2),[.slice R S U]),((J.add 2),[.slice O P Q])] <|
 aR (Instr.buildSlice 27 1 #[(0,.agg #[.string W,.slice a5 a6 a7,ar a8])]) fun a9 b0 b1 =>
 T.az [(((a0.add (ay K 3)).add 1),[.slice a1 a2 a3,ar a4]),((m.add 2),[.slice X Y Z]),((V.add (ay K 3)),[.string W]),((m.add 2),[.slice R S U]),((J.add 2),[.slice O P Q])] <|
 aR (Builtin.append_ #[27,27] 27 #[.slice O P Q,.slice a9 b0 b1]) fun b2 b3 b4 =>
 T.az [(((a0.add (ay K 3)).add 1),[.slice a1 a2 a3,ar a4]),((m.add 2),[.slice X Y Z]),((V.add (ay K 3)),[.string W]),((m.add 2),[.slice R S U])] <|
 T.ao (J.add 2) [.slice b2 b3 b4] <|
 T.again 0 [bo K])
 (T.ae J (yU 64 88) fun O P Q R S U V W X Y Z a0 =>
 T.ao n [.slice O P Q,.slice R S U,.slice V W X,.slice Y Z a0] <|
 T.ae n (yU 64 88) fun a1 a2 a3 a4 a5 a6 a7 a8 a9 b0 b1 b2 =>
 T.ret (.agg #[.slice a1 a2 a3,.slice a4 a5 a6,.slice a7 a8 a9,.slice b0 b1 b2]))),
 (T.new [aM,aM,aM,aM] 30 fun G =>
 T.az [((m.add 3),[.slice u v w]),((m.add 1),[.slice r s t]),(m,[.slice o p q])] <|
 aR (Builtin.append_ #[28,28] 28 #[.slice x y z,.slice u v w]) fun H I J =>
 T.az [((m.add 1),[.slice r s t]),(m,[.slice o p q])] <|
 T.ao G [.slice A B C,.slice D E F,aM,.slice H I J] <|
 T.loop [aK] [vI 0] fun K =>
 T.ae (m.add 2) [.slice 88] fun L M N =>
 bC K M
 (T.ae (G.add 2) [.slice 88] fun O P Q =>
 T.ae (m.add 2) [.slice 88] fun R S U =>
 aT K S R fun V =>
 T.ae (V.add (ay K 3)) [.string] fun W =>
 T.ae (m.add 2) [.slice 88] fun X Y Z =>
 aT K Y X fun a0 =>
 T.ae ((a0.add (ay K 3)).add 1) (yL 66) fun a1 a2 a3 a4 =>
 bq 57 [.agg #[.slice a1 a2 a3,ar a4]] false [(true,(yL 66))] fun a5 a6 a7 a8 =>
 T.az [((m.add 2),[.slice X Y Z]),((V.add (ay K 3)),[.string W]),((m.add 2),[.slice R S U]),((G.add 2),[.slice O P Q])] <|
 aR (Instr.buildSlice 27 1 #[(0,.agg #[.string W,.slice a5 a6 a7,ar a8])]) fun a9 b0 b1 =>
 T.az [(((a0.add (ay K 3)).add 1),[.slice a1 a2 a3,ar a4]),((m.add 2),[.slice X Y Z]),((V.add (ay K 3)),[.string W]),((m.add 2),[.slice R S U]),((G.add 2),[.slice O P Q])] <|
 aR (Builtin.append_ #[27,27] 27 #[.slice O P Q,.slice a9 b0 b1]) fun b2 b3 b4 =>
 T.az [(((a0.add (ay K 3)).add 1),[.slice a1 a2 a3,ar a4]),((m.add 2),[.slice X Y Z]),((V.add (ay K 3)),[.string W]),((m.add 2),[.slice R S U])] <|
 T.ao (G.add 2) [.slice b2 b3 b4] <|
 T.again 0 [bo K])
 (T.ae G (yU 64 88) fun O P Q R S U V W X Y Z a0 =>
 T.ao n [.slice O P Q,.slice R S U,.slice V W X,.slice Y Z a0] <|
 T.ae n (yU 64 88) fun a1 a2 a3 a4 a5 a6 a7 a8 a9 b0 b1 b2 =>
 T.ret (.agg #[.slice a1 a2 a3,.slice a4 a5 a6,.slice a7 a8 a9,.slice b0 b1 b2])))]),
 (T.new [aM,aM,aM,aM] 30 fun D =>
 T.az [((m.add 3),[.slice u v w]),((m.add 1),[.slice r s t]),(m,[.slice o p q])] <|
 bq 52 [.slice r s t] false [(false,[.slice 64])] fun E F G =>
 T.az [((m.add 3),[.slice u v w]),(m,[.slice o p q])] <|
 aR (Builtin.append_ #[28,28] 28 #[.slice x y z,.slice u v w]) fun H I J =>
 T.az [((m.add 1),[.slice r s t]),(m,[.slice o p q])] <|
 T.ao D [.slice A B C,.slice E F G,aM,.slice H I J] <|
 T.loop [aK] [vI 0] fun K =>
 T.ae (m.add 2) [.slice 88] fun L M N =>
 bC K M
 (T.ae (D.add 2) [.slice 88] fun O P Q =>
 T.ae (m.add 2) [.slice 88] fun R S U =>
 aT K S R fun V =>
 T.ae (V.add (ay K 3)) [.string] fun W =>
 T.ae (m.add 2) [.slice 88] fun X Y Z =>
 aT K Y X fun a0 =>
 T.ae ((a0.add (ay K 3)).add 1) (yL 66) fun a1 a2 a3 a4 =>
 bq 57 [.agg #[.slice a1 a2 a3,ar a4]] false [(true,(yL 66))] fun a5 a6 a7 a8 =>
 T.az [((m.add 2),[.slice X Y Z]),((V.add (ay K 3)),[.string W]),((m.add 2),[.slice R S U]),((D.add 2),[.slice O P Q])] <|
 aR (Instr.buildSlice 27 1 #[(0,.agg #[.string W,.slice a5 a6 a7,ar a8])]) fun a9 b0 b1 =>
 T.az [(((a0.add (ay K 3)).add 1),[.slice a1 a2 a3,ar a4]),((m.add 2),[.slice X Y Z]),((V.add (ay K 3)),[.string W]),((m.add 2),[.slice R S U]),((D.add 2),[.slice O P Q])] <|
 aR (Builtin.append_ #[27,27] 27 #[.slice O P Q,.slice a9 b0 b1]) fun b2 b3 b4 =>
 T.az [(((a0.add (ay K 3)).add 1),[.slice a1 a2 a3,ar a4]),((m.add 2),[.slice X Y Z]),((V.add (ay K 3)),[.string W]),((m.add 2),[.slice R S U])] <|
 T.ao (D.add 2) [.slice b2 b3 b4] <|
 T.again 0 [bo K])
 (T.ae D (yU 64 88) fun O P Q R S U V W X Y Z a0 =>
 T.ao n [.slice O P Q,.slice R S U,.slice V W X,.slice Y Z a0] <|
 T.ae n (yU 64 88) fun a1 a2 a3 a4 a5 a6 a7 a8 a9 b0 b1 b2 =>
 T.ret (.agg #[.slice a1 a2 a3,.slice a4 a5 a6,.slice a7 a8 a9,.slice b0 b1 b2])))]),
 (T.new [aM,aM,aM,aM] 30 fun A =>
 T.az [((m.add 3),[.slice u v w]),((m.add 1),[.slice r s t]),(m,[.slice o p q])] <|
 bq 52 [.slice o p q] false [(false,[.slice 64])] fun B C D =>
 T.az [((m.add 3),[.slice u v w]),((m.add 1),[.slice r s t])] <|
 bq 52 [.slice r s t] false [(false,[.slice 64])] fun E F G =>
 T.az [((m.add 3),[.slice u v w]),(m,[.slice o p q])] <|
 aR (Builtin.append_ #[28,28] 28 #[.slice x y z,.slice u v w]) fun H I J =>
 T.az [((m.add 1),[.slice r s t]),(m,[.slice o p q])] <|
 T.ao A [.slice B C D,.slice E F G,aM,.slice H I J] <|
 T.loop [aK] [vI 0] fun K =>
 T.ae (m.add 2) [.slice 88] fun L M N =>
 bC K M
 (T.ae (A.add 2) [.slice 88] fun O P Q =>
 T.ae (m.add 2) [.slice 88] fun R S U =>
 aT K S R fun V =>
 T.ae (V.add (ay K 3)) [.string] fun W =>
 T.ae (m.add 2) [.slice 88] fun X Y Z =>
 aT K Y X fun a0 =>
 T.ae ((a0.add (ay K 3)).add 1) (yL 66) fun a1 a2 a3 a4 =>
 bq 57 [.agg #[.slice a1 a2 a3,ar a4]] false [(true,(yL 66))] fun a5 a6 a7 a8 =>
 T.az [((m.add 2),[.slice X Y Z]),((V.add (ay K 3)),[.string W]),((m.add 2),[.slice R S U]),((A.add 2),[.slice O P Q])] <|
 aR (Instr.buildSlice 27 1 #[(0,.agg #[.string W,.slice a5 a6 a7,ar a8])]) fun a9 b0 b1 =>
 T.az [(((a0.add (ay K 3)).add 1),[.slice a1 a2 a3,ar a4]),((m.add 2),[.slice X Y Z]),((V.add (ay K 3)),[.string W]),((m.add 2),[.slice R S U]),((A.add 2),[.slice O P Q])] <|
 aR (Builtin.append_ #[27,27] 27 #[.slice O P Q,.slice a9 b0 b1]) fun b2 b3 b4 =>
 T.az [(((a0.add (ay K 3)).add 1),[.slice a1 a2 a3,ar a4]),((m.add 2),[.slice X Y Z]),((V.add (ay K 3)),[.string W]),((m.add 2),[.slice R S U])] <|
 T.ao (A.add 2) [.slice b2 b3 b4] <|
 T.again 0 [bo K])
 (T.ae A (yU 64 88) fun O P Q R S U V W X Y Z a0 =>
 T.ao n [.slice O P Q,.slice R S U,.slice V W X,.slice Y Z a0] <|
 T.ae n (yU 64 88) fun a1 a2 a3 a4 a5 a6 a7 a8 a9 b0 b1 b2 =>
 T.ret (.agg #[.slice a1 a2 a3,.slice a4 a5 a6,.slice a7 a8 a9,.slice b0 b1 b2])))]),
 (T.new [aM,aM,aM,aM] 30 fun x =>
 T.az [((m.add 3),[.slice u v w]),((m.add 1),[.slice r s t]),(m,[.slice o p q])] <|
 T.all [ (bq 52 [.slice o p q] false [(false,[.slice 64])] fun y z A =>
 T.az [((m.add 3),[.slice u v w]),((m.add 1),[.slice r s t])] <|
 T.all [ (bq 52 [.slice r s t] false [(false,[.slice 64])] fun B C D =>
 T.az [((m.add 3),[.slice u v w]),(m,[.slice o p q])] <|
 aR (Instr.buildSlice 28 0 #[]) fun E F G =>
 T.az [((m.add 3),[.slice u v w]),((m.add 1),[.slice r s t]),(m,[.slice o p q])] <|
 aR (Builtin.append_ #[28,28] 28 #[.slice E F G,.slice u v w]) fun H I J =>
 T.az [((m.add 1),[.slice r s t]),(m,[.slice o p q])] <|
 T.ao x [.slice y z A,.slice B C D,aM,.slice H I J] <|
 T.loop [aK] [vI 0] fun K =>
 T.ae (m.add 2) [.slice 88] fun L M N =>
 bC K M
 (T.ae (x.add 2) [.slice 88] fun O P Q =>
 T.ae (m.add 2) [.slice 88] fun R S U =>
 aT K S R fun V =>
 T.ae (V.add (ay K 3)) [.string] fun W =>
 T.ae (m.add 2) [.slice 88] fun X Y Z =>
 aT K Y X fun a0 =>
 T.ae ((a0.add (ay K 3)).add 1) (yL 66) fun a1 a2 a3 a4 =>
 bq 57 [.agg #[.slice a1 a2 a3,ar a4]] false [(true,(yL 66))] fun a5 a6 a7 a8 =>
 T.az [((m.add 2),[.slice X Y Z]),((V.add (ay K 3)),[.string W]),((m.add 2),[.slice R S U]),((x.add 2),[.slice O P Q])] <|
 aR (Instr.buildSlice 27 1 #[(0,.agg #[.string W,.slice a5 a6 a7,ar a8])]) fun a9 b0 b1 =>
 T.az [(((a0.add (ay K 3)).add 1),[.slice a1 a2 a3,ar a4]),((m.add 2),[.slice X Y Z]),((V.add (ay K 3)),[.string W]),((m.add 2),[.slice R S U]),((x.add 2),[.slice O P Q])] <|
 aR (Builtin.append_ #[27,27] 27 #[.slice O P Q,.slice a9 b0 b1]) fun b2 b3 b4 =>
 T.az [(((a0.add (ay K 3)).add 1),[.slice a1 a2 a3,ar a4]),((m.add 2),[.slice X Y Z]),((V.add (ay K 3)),[.string W]),((m.add 2),[.slice R S U])] <|
 T.ao (x.add 2) [.slice b2 b3 b4] <|
 T.again 0 [bo K])
 (T.ae x (yU 64 88) fun O P Q R S U V W X Y Z a0 =>
 T.ao n [.slice O P Q,.slice R S U,.slice V W X,.slice Y Z a0] <|
 T.ae n (yU 64 88) fun a1 a2 a3 a4 a5 a6 a7 a8 a9 b0 b1 b2 =>
 T.ret (.agg #[.slice a1 a2 a3,.slice a4 a5 a6,.slice a7 a8 a9,.slice b0 b1 b2]))),
 (aR (Instr.buildSlice 28 0 #[]) fun B C D =>
 T.az [((m.add 3),[.slice u v w]),((m.add 1),[.slice r s t]),(m,[.slice o p q])] <|
 bq 52 [.slice r s t] false [(false,[.slice 64])] fun E F G =>
 T.az [((m.add 3),[.slice u v w]),(m,[.slice o p q])] <|
 aR (Builtin.append_ #[28,28] 28 #[.slice B C D,.slice u v w]) fun H I J =>
 T.az [((m.add 1),[.slice r s t]),(m,[.slice o p q])] <|
 T.ao x [.slice y z A,.slice E F G,aM,.slice H I J] <|
 T.loop [aK] [vI 0] fun K =>
 T.ae (m.add 2) [.slice 88] fun L M N =>
 bC K M
 (T.ae (x.add 2) [.slice 88] fun O P Q =>
 T.ae (m.add 2) [.slice 88] fun R S U =>
 aT K S R fun V =>
 T.ae (V.add (ay K 3)) [.string] fun W =>
 T.ae (m.add 2) [.slice 88] fun X Y Z =>
 aT K Y X fun a0 =>
 T.ae ((a0.add (ay K 3)).add 1) (yL 66) fun a1 a2 a3 a4 =>
 bq 57 [.agg #[.slice a1 a2 a3,ar a4]] false [(true,(yL 66))] fun a5 a6 a7 a8 =>
 T.az [((m.add 2),[.slice X Y Z]),((V.add (ay K 3)),[.string W]),((m.add 2),[.slice R S U]),((x.add 2),[.slice O P Q])] <|
 aR (Instr.buildSlice 27 1 #[(0,.agg #[.string W,.slice a5 a6 a7,ar a8])]) fun a9 b0 b1 =>
 T.az [(((a0.add (ay K 3)).add 1),[.slice a1 a2 a3,ar a4]),((m.add 2),[.slice X Y Z]),((V.add (ay K 3)),[.string W]),((m.add 2),[.slice R S U]),((x.add 2),[.slice O P Q])] <|
 aR (Builtin.append_ #[27,27] 27 #[.slice O P Q,.slice a9 b0 b1]) fun b2 b3 b4 =>
 T.az [(((a0.add (ay K 3)).add 1),[.slice a1 a2 a3,ar a4]),((m.add 2),[.slice X Y Z]),((V.add (ay K 3)),[.string W]),((m.add 2),[.slice R S U])] <|
 T.ao (x.add 2) [.slice b2 b3 b4] <|
 T.again 0 [bo K])
 (T.ae x (yU 64 88) fun O P Q R S U V W X Y Z a0 =>
 T.ao n [.slice O P Q,.slice R S U,.slice V W X,.slice Y Z a0] <|
 T.ae n (yU 64 88) fun a1 a2 a3 a4 a5 a6 a7 a8 a9 b0 b1 b2 =>
 T.ret (.agg #[.slice a1 a2 a3,.slice a4 a5 a6,.slice a7 a8 a9,.slice b0 b1 b2])))]),
 (aR (Instr.buildSlice 28 0 #[]) fun y z A =>
 T.az [((m.add 3),[.slice u v w]),((m.add 1),[.slice r s t]),(m,[.slice o p q])] <|
 bq 52 [.slice o p q] false [(false,[.slice 64])] fun B C D =>
 T.az [((m.add 3),[.slice u v w]),((m.add 1),[.slice r s t])] <|
 bq 52 [.slice r s t] false [(false,[.slice 64])] fun E F G =>
 T.az [((m.add 3),[.slice u v w]),(m,[.slice o p q])] <|
 aR (Builtin.append_ #[28,28] 28 #[.slice y z A,.slice u v w]) fun H I J =>
 T.az [((m.add 1),[.slice r s t]),(m,[.slice o p q])] <|
 T.ao x [.slice B C D,.slice E F G,aM,.slice H I J] <|
 T.loop [aK] [vI 0] fun K =>
 T.ae (m.add 2) [.slice 88] fun L M N =>
 bC K M
 (T.ae (x.add 2) [.slice 88] fun O P Q =>
 T.ae (m.add 2) [.slice 88] fun R S U =>
 aT K S R fun V =>
 T.ae (V.add (ay K 3)) [.string] fun W =>
 T.ae (m.add 2) [.slice 88] fun X Y Z =>
 aT K Y X fun a0 =>
 T.ae ((a0.add (ay K 3)).add 1) (yL 66) fun a1 a2 a3 a4 =>
 bq 57 [.agg #[.slice a1 a2 a3,ar a4]] false [(true,(yL 66))] fun a5 a6 a7 a8 =>
 T.az [((m.add 2),[.slice X Y Z]),((V.add (ay K 3)),[.string W]),((m.add 2),[.slice R S U]),((x.add 2),[.slice O P Q])] <|
 aR (Instr.buildSlice 27 1 #[(0,.agg #[.string W,.slice a5 a6 a7,ar a8])]) fun a9 b0 b1 =>
 T.az [(((a0.add (ay K 3)).add 1),[.slice a1 a2 a3,ar a4]),((m.add 2),[.slice X Y Z]),((V.add (ay K 3)),[.string W]),((m.add 2),[.slice R S U]),((x.add 2),[.slice O P Q])] <|
 aR (Builtin.append_ #[27,27] 27 #[.slice O P Q,.slice a9 b0 b1]) fun b2 b3 b4 =>
 T.az [(((a0.add (ay K 3)).add 1),[.slice a1 a2 a3,ar a4]),((m.add 2),[.slice X Y Z]),((V.add (ay K 3)),[.string W]),((m.add 2),[.slice R S U])] <|
 T.ao (x.add 2) [.slice b2 b3 b4] <|
 T.again 0 [bo K])
 (T.ae x (yU 64 88) fun O P Q R S U V W X Y Z a0 =>
 T.ao n [.slice O P Q,.slice R S U,.slice V W X,.slice Y Z a0] <|
 T.ae n (yU 64 88) fun a1 a2 a3 a4 a5 a6 a7 a8 a9 b0 b1 b2 =>
 T.ret (.agg #[.slice a1 a2 a3,.slice a4 a5 a6,.slice a7 a8 a9,.slice b0 b1 b2])))])]
def kW (a:XC) (b c:Nat) (d:XC) (e f:Nat) (g:XC) (h i:Nat) (j:XC) (k l:Nat):bQ YC [] Tryz.f23 [.agg #[.slice a b c,.slice d e f,.slice g h i,.slice j k l]]=gJ a b c d e f g h i j k l:=aw
end Go.Sx
