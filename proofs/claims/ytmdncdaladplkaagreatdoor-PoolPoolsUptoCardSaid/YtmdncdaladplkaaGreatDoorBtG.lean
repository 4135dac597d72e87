/- Trees of functions. No condition. -/
import Derived.Test.YtmdncdaladplkaaGreatDoorSxF
import Derived.Test.YtmdncdaladplkaaGreatDoorProg
import Derived.KernelRfl
set_option linter.all false
set_option maxRecDepth 100000
set_option maxHeartbeats 4000000
namespace Go.Sx
open Go.Proofs
def zj (a:Xac) (b c:Nat):T :=
 T.new [vI 0,vI 0,bZ] 77 fun d =>
 cond ((b:Int)==0)
 (T.ax d [vI 25,vI 0,bZ] <|
 T.af d [.int .i64,.int .i64,.string] fun e f g =>
 bj #[.pointer none,.agg #[vI e,vI f,.string g]])
 (cond (decide ((b:Int)>64))
 (T.ax d [vI 4,vI 0,bZ] <|
 T.af d [.int .i64,.int .i64,.string] fun e f g =>
 bj #[.pointer none,.agg #[vI e,vI f,.string g]])
 (T.loop [(false,[.pointer 0]),aM] [.pointer none,vI 0] fun e f =>
 bq f b
 (aR f b a fun g =>
 T.af (g.add (aH f 4)) (yU 55 116) fun h i j k l m n o p q r s =>
 T.new [aZ,aZ,aZ,aZ] 70 fun t =>
 T.ax t [.slice h i j,.slice k l m,.slice n o p,.slice q r s] <|
 T.af t (yU 55 116) fun u v w x y z A B C D E F =>
 cE 30 [.agg #[.slice u v w,.slice x y z,.slice A B C,.slice D E F]] fun G =>
 cond (G != 0)
 (T.ax d [vI 31,vI f,bZ] <|
 T.af d [.int .i64,.int .i64,.string] fun H I J =>
 bj #[.pointer none,.agg #[vI H,vI I,.string J]])
 (T.again 0 [.pointer e,aY f]))
 (bR (Instr.makeMap 104 none) false [(false,[.map 0 0])] fun g =>
 bR (Instr.makeMap 104 none) false [(false,[.map 0 0])] fun h =>
 bR (Instr.makeMap 105 none) false [(false,[.map 0 0])] fun i =>
 T.new [aZ,aZ,.map g,.map h,.map i,aZ,vI 0] 108 fun j =>
 bM 31 [.pointer (some j),.slice a b c] true [] <| bM 32 [.pointer (some j),.slice a b c] true [(true,[.int .i64,.int .i64,.string]),ct] fun k l m n =>
 T.new [vI 0,vI 0,bZ] 77 fun o =>
 T.ax o [vI k,vI l,.string m] <|
 cond n
 (T.af o [.int .i64,.int .i64,.string] fun p q r =>
 T.bh [(o,[vI p,vI q,.string r])] <|
 T.ax d [vI p,vI q,.string r] <|
 T.af d [.int .i64,.int .i64,.string] fun s t u =>
 bj #[.pointer none,.agg #[vI s,vI t,.string u]])
 (T.loop [(false,[.pointer 0]),cR,cR,aM] [.pointer e,aZ,aZ,vI 0] fun p q r s t u v w =>
 bq w b
 (aR w b a fun x =>
 T.af (x.add (aH w 4)) (yU 55 116) fun y z A B C D E F G H I J =>
 T.new [aZ,aZ,aZ,aZ] 70 fun K =>
 T.ax K [.slice y z A,.slice B C D,.slice E F G,.slice H I J] <|
 T.new [aZ,aZ,aZ,aZ] 70 fun L =>
 T.af K [.slice 55] fun M N O =>
 bM 33 [.pointer (some j),vI w,.slice M N O] true [(false,[.slice 55]),(false,[.string]),ct] fun P Q R S U =>
 T.ax L [.slice P Q R] <|
 cond (!U)
 (T.ax d [vI 23,vI w,.string S] <|
 T.af d [.int .i64,.int .i64,.string] fun V W X =>
 bj #[.pointer none,.agg #[vI V,vI W,.string X]])
 (T.af (K.add 1) [.slice 55] fun V W X =>
 bM 33 [.pointer (some j),vI w,.slice V W X] true [(false,[.slice 55]),(false,[.string]),ct] fun Y Z a0 a1 a2 =>
 T.ax (L.add 1) [.slice Y Z a0] <|
 cond (!a2)
 (T.ax d [vI 23,vI w,.string a1] <|
 T.af d [.int .i64,.int .i64,.string] fun a3 a4 a5 =>
 bj #[.pointer none,.agg #[vI a3,vI a4,.string a5]])
 (T.af (K.add 2) [.slice 116] fun a3 a4 a5 =>
 T.loop [(false,[.pointer 0]),cR,cR,aM] [.pointer p,.slice q r s,.slice t u v,vI 0] fun a6 a7 a8 a9 b0 b1 b2 b3 =>
 bq b3 a4
 (aR b3 a4 a3 fun b4 =>
 T.af (b4.add (aH b3 3)) [.string,.slice 64,.int .u32] fun b5 b6 b7 b8 b9 =>
 T.new [bZ,aZ,aC 0] 116 fun c0 =>
 T.ax c0 [.string b5,.slice b6 b7 b8,aC b9] <|
 T.af (c0.add 1) (yL 64) fun c1 c2 c3 c4 =>
 bM 34 [.pointer (some j),vI w,.agg #[.slice c1 c2 c3,aC c4]] true [(true,(yL 64)),(false,[.string]),ct] fun c5 c6 c7 c8 c9 d0 =>
 T.new [aZ,aC 0] 53 fun d1 =>
 T.ax d1 [.slice c5 c6 c7,aC c8] <|
 cond (!d0)
 (T.ax d [vI 23,vI w,.string c9] <|
 T.af d [.int .i64,.int .i64,.string] fun d2 d3 d4 =>
 bj #[.pointer none,.agg #[vI d2,vI d3,.string d4]])
 (T.af c0 [.string] fun d2 =>
 T.af d1 (yL 64) fun d3 d4 d5 d6 =>
 eE 35 [.pointer (some j),.agg #[vI w,.string d2]] fun d7 =>
 T.bh [(d1,[.slice d3 d4 d5,aC d6]),(c0,[.string d2])] <|
 bd (Instr.buildSlice 67 1 #[(0,.agg #[.string d7,.slice d3 d4 d5,aC d6])]) fun d8 d9 e0 =>
 T.bh [(d1,[.slice d3 d4 d5,aC d6]),(c0,[.string d2])] <|
 bd (Builtin.append_ #[67,67] 67 #[.slice a7 a8 a9,.slice d8 d9 e0]) fun e1 e2 e3 =>
 T.bh [(d1,[.slice d3 d4 d5,aC d6]),(c0,[.string d2])] <|
 T.af c0 [.string] fun e4 =>
 bd (Instr.buildSlice 112 1 #[(0,.agg #[vI w,.string e4])]) fun e5 e6 e7 =>
 bd (Builtin.append_ #[112,112] 112 #[.slice b0 b1 b2,.slice e5 e6 e7]) fun e8 e9 f0 =>
 T.again 2 [.pointer a6,.slice e1 e2 e3,.slice e8 e9 f0,aY b3]))
 (T.af j [.slice 70] fun b4 b5 b6 =>
 T.af L (yU 55 116) fun b7 b8 b9 c0 c1 c2 c3 c4 c5 c6 c7 c8 =>
 bd (Instr.buildSlice 32 1 #[(0,.agg #[.slice b7 b8 b9,.slice c0 c1 c2,.slice c3 c4 c5,.slice c6 c7 c8])]) fun c9 d0 d1 =>
 T.bh [(j,[.slice b4 b5 b6])] <|
 bd (Builtin.append_ #[32,32] 32 #[.slice b4 b5 b6,.slice c9 d0 d1]) fun d2 d3 d4 =>
 T.bh [(L,[.slice b7 b8 b9,.slice c0 c1 c2,.slice c3 c4 c5,.slice c6 c7 c8])] <|
 T.ax j [.slice d2 d3 d4] <|
 T.af (j.add 6) [.int .i64] fun d5 =>
 T.af K (yU 55 116) fun d6 d7 d8 d9 e0 e1 e2 e3 e4 e5 e6 e7 =>
 cE 36 [.agg #[.slice d6 d7 d8,.slice d9 e0 e1,.slice e2 e3 e4,.slice e5 e6 e7]] fun e8 =>
 T.bh [((j.add 6),[vI d5])] <|
 T.ax (j.add 6) [vI (bn (d5+e8))] <|
 T.again 1 [.pointer a6,.slice a7 a8 a9,.slice b0 b1 b2,aY w]))))
 (bM 37 [.slice q r s] true [(false,[.slice 116]),aM,aM] fun x y z A B =>
 cond (B != 0)
 (aR A u t fun C =>
 T.af (C.add (aH A 2)) [.int .i64] fun D =>
 aR A u t fun E =>
 T.af ((E.add (aH A 2)).add 1) [.string] fun F =>
 T.bh [(((E.add (aH A 2)).add 1),[.string F]),((C.add (aH A 2)),[vI D])] <|
 T.ax d [vI B,vI D,.string F] <|
 T.af d [.int .i64,.int .i64,.string] fun G H I =>
 bj #[.pointer none,.agg #[vI G,vI H,.string I]])
 (T.af j [.slice 70] fun C D E =>
 T.loop [aM] [vI 0] fun F =>
 bq F D
 (aR F D C fun G =>
 T.af (G.add (aH F 4)) (yU 55 116) fun H I J K L M N O P Q R S =>
 T.new [aZ,aZ,aZ,aZ] 70 fun U =>
 T.ax U [.slice H I J,.slice K L M,.slice N O P,.slice Q R S] <|
 T.af U [.slice 55] fun V W X =>
 T.af (U.add 1) [.slice 55] fun Y Z a0 =>
 bd (Instr.buildSlice 43 2 #[(0,.slice V W X),(1,.slice Y Z a0)]) fun a1 a2 a3 =>
 T.loop [aM] [vI 0] fun a4 =>
 bq a4 a2
 (aR a4 a2 a1 fun a5 =>
 T.af (a5.add (aH a4 1)) [.slice 55] fun a6 a7 a8 =>
 T.loop [aM] [vI 0] fun a9 =>
 bq a9 a7
 (aR a9 a7 a6 fun b0 =>
 T.af ((b0.add (aH a9 10)).add 7) (yL 64) fun b1 b2 b3 b4 =>
 bM 38 [.agg #[.slice b1 b2 b3,aC b4],.slice x y z] false [(true,(yL 64))] fun b5 b6 b7 b8 =>
 aR a9 a7 a6 fun b9 =>
 T.ax ((b9.add (aH a9 10)).add 7) [.slice b5 b6 b7,aC b8] <|
 T.again 4 [aY a9])
 (T.again 3 [aY a4]))
 (T.again 2 [aY F]))
 (T.ax d [vI 0,vI 0,bZ] <|
 T.af d [.int .i64,.int .i64,.string] fun G H I =>
 bj #[.pointer (some j),.agg #[vI G,vI H,.string I]])))))))
def AP (a:Xac) (b c:Nat):bS Xaz [] Tryz.f21 [.slice a b c]=zj a b c:=av
def nC (a:Xac) (b c:Nat):T :=
 aT 23 [.slice a b c] fun d =>
 cond d
 (bj #[.pointer none,.pointer none,.bool false,.bool true])
 (bM 21 [.slice a b c] true [(false,[.pointer 108]),(true,[.int .i64,.int .i64,.string])] fun e f g h =>
 T.new [vI 0,vI 0,bZ] 77 fun i =>
 T.ax i [vI f,vI g,.string h] <|
 bM 24 [.slice a b c] true [(false,[.pointer 45]),(true,[.int .i64,.int .i64,.string])] fun j k l m =>
 T.new [vI 0,vI 0,bZ] 91 fun n =>
 T.ax n [vI k,vI l,.string m] <|
 T.af i [.int .i64] fun o =>
 T.af n [.int .i64] fun p =>
 cond (o==p)
 (T.af (i.add 1) [.int .i64] fun q =>
 T.af (n.add 1) [.int .i64] fun r =>
 cond (q==r)
 (T.af (i.add 2) [.string] fun s =>
 T.af (n.add 2) [.string] fun t =>
 cond ((ByteArray.toList s)==(ByteArray.toList t))
 (T.af n [.int .i64] fun u =>
 cond ((!(/-?Option.isSome.match_1-/ match e with
 | some val=>false
 | none=>true))==(u==0))
 (bj #[.pointer e,.pointer j,.bool (!(/-?Option.isSome.match_1-/ match e with
 | some val=>false
 | none=>true)),.bool ((!(/-?Option.isSome.match_1-/ match e with
 | some val=>false
 | none=>true))==(u==0))])
 (bj #[.pointer e,.pointer j,.bool false,.bool ((!(/-?Option.isSome.match_1-/ match e with
 | some val=>false
 | none=>true))==(u==0))]))
 (bj #[.pointer e,.pointer j,.bool false,.bool false]))
 (bj #[.pointer e,.pointer j,.bool false,.bool false]))
 (bj #[.pointer e,.pointer j,.bool false,.bool false]))
def sT (a:Xac) (b c:Nat):bS Xaz [] Tryz.f11 [.slice a b c]=nC a b c:=av
def gJ (a:Xac) (b c:Nat) (d e:Int):T :=
 bM 11 [.slice a b c] true [(false,[.pointer 108]),(false,[.pointer 45]),ct,ct] fun f g h i =>
 cond (!h)
 (cond i
 (aT 10 [] fun j =>
 T.ret (.bool j))
 bH)
 (bM 9 [.pointer f,vI d,vI e] true [aM,aM,ct] fun j k l =>
 bM 12 [.pointer g,vI d,vI e] true [aM,aM,ct] fun m n o =>
 bM 8 [.pointer f] false [(false,[.slice 30])] fun p q r =>
 bM 14 [.pointer g] false [(false,[.slice 94])] fun s t u =>
 aT 13 [.slice p q r,.slice s t u] fun v =>
 cond v
 (cond (j==m)
 (cond (k==n)
 (cond (l==o)
 (aT 10 [] fun w =>
 T.ret (.bool w))
 bH)
 bH)
 bH)
 bH)
def kX (a:Xac) (b c:Nat) (d e:Int):bS Xaz [] Tryz.f4 [.slice a b c,vI d,vI e]=gJ a b c d e:=av
def xm (a:Xac):T :=
 bM 22 [.pointer a] true [(false,[.slice 84]),(false,[.map 89 86])] fun b c d e =>
 T.loop [cR,aM] [aZ,vI 0] fun f g h i =>
 bq i c
 (aR i c b fun j =>
 T.af (j.add (aH i 3)) [.int .i64,.int .i64,.slice 53] fun k l m n o =>
 T.new [vI 0,vI 0,aZ] 84 fun p =>
 T.ax p [vI k,vI l,.slice m n o] <|
 T.af p [.int .i64,.int .i64,.slice 53] fun q r s t u =>
 bd (Instr.buildSlice 24 1 #[(0,.agg #[vI q,vI r,.slice s t u])]) fun v w x =>
 bd (Builtin.append_ #[24,24] 24 #[.slice f g h,.slice v w x]) fun y z A =>
 T.again 0 [.slice y z A,aY i])
 (T.ret (.slice f g h))
def zL (a:Xac):bS Xaz [] Tryz.f8 [.pointer a]=xm a:=av
def zq (a:Xac) (b c:Int):T :=
 bM 22 [.pointer a] true [(false,[.slice 84]),(false,[.map 89 86])] fun d e f g =>
 bR (Instr.lookup 81 (.map g) (.agg #[vI b,vI c]) true) true [(true,[.int .i64,.int .i64]),ct] fun h i j =>
 T.new [vI 0,vI 0] 86 fun k =>
 T.ax k [vI h,vI i] <|
 T.af k [.int .i64] fun l =>
 T.af (k.add 1) [.int .i64] fun m =>
 T.bh [((k.add 1),[vI m])] <|
 bj #[vI l,vI m,.bool j]
def B2 (a:Xac) (b c:Int):bS Xaz [] Tryz.f9 [.pointer a,vI b,vI c]=zq a b c:=av
def ka (a:Xac) (b c:Int):T :=
 cond (decide (b<0))
 (bj #[vI 0,vI 0,.bool false])
 (T.bi a fun d =>
 T.af (d.add 2) [.slice 46] fun e f g =>
 cond (decide (b>=(f:Int)))
 (bj #[vI 0,vI 0,.bool false])
 (cond (decide (c<0))
 (bj #[vI 0,vI 0,.bool false])
 (T.bi a fun h =>
 T.af (h.add 2) [.slice 46] fun i j k =>
 aR b j i fun l =>
 T.af (l.add (aH b 1)) [.slice 55] fun m n o =>
 cond (decide (c>=(n:Int)))
 (bj #[vI 0,vI 0,.bool false])
 (T.bi a fun p =>
 T.af (p.add 2) [.slice 46] fun q r s =>
 aR b r q fun t =>
 T.af (t.add (aH b 1)) [.slice 55] fun u v w =>
 aR c v u fun x =>
 T.af (x.add (aH c 10)) (yI 64) fun y z A B C D E F G H I J =>
 aT 15 [.agg #[vI y,.string z,vI A,vI B,vI C,.int .i32 D,vI E,.slice F G H,aC I,vI J]] fun K =>
 cond (!K)
 (bj #[vI 0,vI 0,.bool false])
 (bM 14 [.pointer a] false [(false,[.slice 94])] fun L M N =>
 T.loop [aM,aM,ct,aM] [vI 0,vI 0,.bool false,vI 0] fun O P Q R =>
 bq R M
 (aR R M L fun S =>
 T.af (S.add (aH R 3)) [.int .i64] fun U =>
 cond (U==b)
 (aR R M L fun V =>
 T.af ((V.add (aH R 3)).add 1) [.int .i64] fun W =>
 cond (decide (W>c))
 (aR R M L fun X =>
 T.af ((X.add (aH R 3)).add 2) [.slice 53] fun Y Z a0 =>
 T.bi a fun a1 =>
 T.af (a1.add 2) [.slice 46] fun a2 a3 a4 =>
 aR b a3 a2 fun a5 =>
 T.af (a5.add (aH b 1)) [.slice 55] fun a6 a7 a8 =>
 aR c a7 a6 fun a9 =>
 T.af ((a9.add (aH c 10)).add 7) (yL 64) fun b0 b1 b2 b3 =>
 cE 25 [.slice Y Z a0,.agg #[.slice b0 b1 b2,aC b3]] fun b4 =>
 T.bh [((a5.add (aH b 1)),[.slice a6 a7 a8]),((a1.add 2),[.slice a2 a3 a4])] <|
 T.bh [(((a9.add (aH c 10)).add 7),[.slice b0 b1 b2,aC b3]),((a5.add (aH b 1)),[.slice a6 a7 a8]),((a1.add 2),[.slice a2 a3 a4]),(((X.add (aH R 3)).add 2),[.slice Y Z a0])] <|
 bj #[vI R,vI b4,.bool true])
 (T.again 0 [vI O,vI P,.bool Q,aY R]))
 (T.again 0 [vI O,vI P,.bool Q,aY R]))
 (bj #[vI 0,vI 0,.bool false]))))))
def pF (a:Xac) (b c:Int):bS Xaz [] Tryz.f12 [.pointer a,vI b,vI c]=ka a b c:=av
def j9 (a:Xac) (b c:Nat) (d:Xac) (e f:Nat):T :=
 cond ((b:Int) != (e:Int))
 bH
 (T.loop [ct,aM] [.bool false,vI 0] fun g h =>
 bq h b
 (aR h b a fun i =>
 T.af (i.add (aH h 3)) [.int .i64] fun j =>
 aR h e d fun k =>
 T.af (k.add (aH h 3)) [.int .i64] fun l =>
 cond (j != l)
 bH
 (aR h b a fun m =>
 T.af ((m.add (aH h 3)).add 1) [.int .i64] fun n =>
 aR h e d fun o =>
 T.af ((o.add (aH h 3)).add 1) [.int .i64] fun p =>
 cond (n != p)
 bH
 (aR h b a fun q =>
 T.af ((q.add (aH h 3)).add 2) [.slice 53] fun r s t =>
 aR h e d fun u =>
 T.af ((u.add (aH h 3)).add 2) [.slice 53] fun v w x =>
 cond ((s:Int) != (w:Int))
 bH
 (T.loop [ct,aM] [.bool g,vI 0] fun y z =>
 aR h b a fun A =>
 T.af ((A.add (aH h 3)).add 2) [.slice 53] fun B C D =>
 bq z C
 (aR h b a fun E =>
 T.af ((E.add (aH h 3)).add 2) [.slice 53] fun F G H =>
 aR z G F fun I =>
 T.af (I.add (aH z 2)) (yL 64) fun J K L M =>
 aR h e d fun N =>
 T.af ((N.add (aH h 3)).add 2) [.slice 53] fun O P Q =>
 aR z P O fun R =>
 T.af (R.add (aH z 2)) (yL 64) fun S U V W =>
 aT 16 [.agg #[.slice J K L,aC M],.agg #[.slice S U V,aC W]] fun X =>
 T.bh [(((N.add (aH h 3)).add 2),[.slice O P Q]),(((E.add (aH h 3)).add 2),[.slice F G H])] <|
 cond (!X)
 bH
 (T.again 1 [.bool y,aY z]))
 (T.again 0 [.bool y,aY h])))))
 dX)
def pB (a:Xac) (b c:Nat) (d:Xac) (e f:Nat):bS Xaz [] Tryz.f13 [.slice a b c,.slice d e f]=j9 a b c d e f:=av
def jy (a:Xac):T :=
 T.loop [cR,aM] [aZ,vI 0] fun b c d e =>
 T.bi a fun f =>
 T.af (f.add 2) [.slice 46] fun g h i =>
 bq e h
 (T.loop [cR,cR,aM] [.slice b c d,aZ,vI 0] fun j k l m n o p =>
 T.bi a fun q =>
 T.af (q.add 2) [.slice 46] fun r s t =>
 aR e s r fun u =>
 T.af (u.add (aH e 1)) [.slice 55] fun v w x =>
 cond (decide (p<=(w:Int)))
 (T.bi a fun y =>
 T.af (y.add 2) [.slice 46] fun z A B =>
 aR e A z fun C =>
 T.af (C.add (aH e 1)) [.slice 55] fun D E F =>
 cond (p==(E:Int))
 (cond (decide ((n:Int)>0))
 (bd (Instr.buildSlice 38 1 #[(0,.agg #[vI e,vI p,.slice m n o])]) fun G H I =>
 bd (Builtin.append_ #[38,38] 38 #[.slice j k l,.slice G H I]) fun J K L =>
 T.again 1 [.slice J K L,aZ,aY p])
 (T.again 1 [.slice j k l,aZ,aY p]))
 (T.bi a fun G =>
 T.af (G.add 2) [.slice 46] fun H I J =>
 aR e I H fun K =>
 T.af (K.add (aH e 1)) [.slice 55] fun L M N =>
 aR p M L fun O =>
 T.af (O.add (aH p 10)) [.int .i64] fun P =>
 cond (P==4)
 (cond (decide ((n:Int)>0))
 (bd (Instr.buildSlice 38 1 #[(0,.agg #[vI e,vI p,.slice m n o])]) fun Q R S =>
 bd (Builtin.append_ #[38,38] 38 #[.slice j k l,.slice Q R S]) fun U V W =>
 T.again 1 [.slice U V W,aZ,aY p])
 (T.again 1 [.slice j k l,aZ,aY p]))
 (T.bi a fun Q =>
 T.af (Q.add 2) [.slice 46] fun R S U =>
 aR e S R fun V =>
 T.af (V.add (aH e 1)) [.slice 55] fun W X Y =>
 aR p X W fun Z =>
 T.af (Z.add (aH p 10)) (yI 64) fun a0 a1 a2 a3 a4 a5 a6 a7 a8 a9 b0 b1 =>
 aT 15 [.agg #[vI a0,.string a1,vI a2,vI a3,vI a4,.int .i32 a5,vI a6,.slice a7 a8 a9,aC b0,vI b1]] fun b2 =>
 cond b2
 (T.bi a fun b3 =>
 T.af (b3.add 2) [.slice 46] fun b4 b5 b6 =>
 aR e b5 b4 fun b7 =>
 T.af (b7.add (aH e 1)) [.slice 55] fun b8 b9 c0 =>
 aR p b9 b8 fun c1 =>
 T.af ((c1.add (aH p 10)).add 7) (yL 64) fun c2 c3 c4 c5 =>
 cE 25 [.slice m n o,.agg #[.slice c2 c3 c4,aC c5]] fun c6 =>
 cond (decide (c6<0))
 (T.bi a fun c7 =>
 T.af (c7.add 2) [.slice 46] fun c8 c9 d0 =>
 aR e c9 c8 fun d1 =>
 T.af (d1.add (aH e 1)) [.slice 55] fun d2 d3 d4 =>
 aR p d3 d2 fun d5 =>
 T.af ((d5.add (aH p 10)).add 7) (yL 64) fun d6 d7 d8 d9 =>
 bd (Instr.buildSlice 28 1 #[(0,.agg #[.slice d6 d7 d8,aC d9])]) fun e0 e1 e2 =>
 bd (Builtin.append_ #[28,28] 28 #[.slice m n o,.slice e0 e1 e2]) fun e3 e4 e5 =>
 T.again 1 [.slice j k l,.slice e3 e4 e5,aY p])
 (T.again 1 [.slice j k l,.slice m n o,aY p]))
 (T.again 1 [.slice j k l,.slice m n o,aY p]))))
 (T.again 0 [.slice j k l,aY e]))
 (T.ret (.slice b c d))
def ob (a:Xac):bS Xaz [] Tryz.f14 [.pointer a]=jy a:=av
def kf (a:Int) (b:Xaa) (c d e f g:Int) (h:Xac) (i j:Nat) (k l:Int):T :=
 T.new [vI a,.string b,vI c,vI d,vI e,.int .i32 f,vI g,.slice h i j,aC k,vI l] 55 fun m =>
 T.af m [.int .i64] fun n =>
 cond (n==2)
 (T.af (m.add 2) [.int .i64] fun o =>
 cE 26 [vI o] fun p =>
 T.ret (.bool (p==11)))
 bH
def pu (a:Int) (b:Xaa) (c d e f g:Int) (h:Xac) (i j:Nat) (k l:Int):bS Xaz [] Tryz.f15 [.agg #[vI a,.string b,vI c,vI d,vI e,.int .i32 f,vI g,.slice h i j,.int .u32 k,vI l]]=kf a b c d e f g h i j k l:=av
def js (a:Xac) (b c:Nat) (d:Xac) (e f:Nat) (g:Int):T :=
 T.new [.slice d e f,aC g] 53 fun h =>
 T.loop [aM,aM] [vI 0,vI 0] fun i j =>
 bq j b
 (aR j b a fun k =>
 T.af (k.add (aH j 2)) (yL 64) fun l m n o =>
 T.af h (yL 64) fun p q r s =>
 aT 16 [.agg #[.slice l m n,aC o],.agg #[.slice p q r,aC s]] fun t =>
 cond t
 (T.ret (vI j))
 (T.again 0 [vI i,aY j]))
 (T.ret (vI (-1)))
def oq (a:Xac) (b c:Nat) (d:Xac) (e f:Nat) (g:Int):bS Xaz [] Tryz.f25 [.slice a b c,.agg #[.slice d e f,.int .u32 g]]=js a b c d e f g:=av
def wa (a:Int) (b:Xaa) (c d e f g:Int) (h:Xac) (i j:Nat) (k l:Int):T :=
 T.new [vI a,.string b,vI c,vI d,vI e,.int .i32 f,vI g,.slice h i j,aC k,vI l] 55 fun m =>
 T.af (m.add 2) [.int .i64] fun n =>
 bM 67 [vI n] true [(true,[.string,.int .u8,.int .i64]),ct] fun o p q r =>
 T.new [bZ,.int .u8 0,vI 0] 171 fun s =>
 T.ax s [.string o,.int .u8 p,vI q] <|
 T.af m [.int .i64] fun t =>
 cond (t==2)
 (T.af (s.add 2) [.int .i64] fun u =>
 T.ret (.bool (u==11)))
 bH
def zD (a:Int) (b:Xaa) (c d e f g:Int) (h:Xac) (i j:Nat) (k l:Int):bS Xaz [] Tryz.f41 [.agg #[vI a,.string b,vI c,vI d,vI e,.int .i32 f,vI g,.slice h i j,.int .u32 k,vI l]]=wa a b c d e f g h i j k l:=av
def lf (a:Xac) (b c:Nat) (d:Int) (e:Xac) (f g:Nat) (h:Int):T :=
 T.new [.slice a b c,aC d] 53 fun i =>
 T.new [.slice e f g,aC h] 53 fun j =>
 T.af (i.add 1) [.int .u32] fun k =>
 T.af (j.add 1) [.int .u32] fun l =>
 cond (k != l)
 bH
 (T.af i [.slice 64] fun m n o =>
 T.af j [.slice 64] fun p q r =>
 cond ((n:Int) != (q:Int))
 bH
 (T.loop [ct,aM] [.bool false,vI 0] fun s t =>
 T.af i [.slice 64] fun u v w =>
 bq t v
 (T.af i [.slice 64] fun x y z =>
 aR t y x fun A =>
 T.af (A.add (aH t 2)) [.string,.int .u32] fun B C =>
 T.af j [.slice 64] fun D E F =>
 aR t E D fun G =>
 T.af (G.add (aH t 2)) [.string,.int .u32] fun H I =>
 eZ (Sx.lX (BinOp.neq) 64 (Operand.tmp 31) (Operand.tmp 36) (.agg #[.string B,aC C]) (.agg #[.string H,aC I])) fun J =>
 T.bh [(j,[.slice D E F]),(i,[.slice x y z])] <|
 cond J
 bH
 (T.again 0 [.bool s,aY t]))
 dX))
def qd (a:Xac) (b c:Nat) (d:Int) (e:Xac) (f g:Nat) (h:Int):bS Xaz [] Tryz.f16 [.agg #[.slice a b c,.int .u32 d],.agg #[.slice e f g,.int .u32 h]]=lf a b c d e f g h:=av
def yE (a:Xac):T :=
 bR (Instr.makeMap 81 none) false [(false,[.map 0 0])] fun b =>
 cond (/-?Option.isSome.match_1-/ match a with
 | some val=>false
 | none=>true)
 (bj #[aZ,.map b])
 (bR (Instr.makeMap 126 none) false [(false,[.map 0 0])] fun c =>
 cE 39 [.pointer a] fun d =>
 T.loop [cR,aM] [aZ,vI 0] fun e f g h =>
 cond (decide (h<d))
 (T.new [vI 0,vI 0,aZ] 84 fun i =>
 T.ax i [vI h,vI 0,aZ] <|
 bM 40 [.pointer a,vI h,vI 0] false [(false,[.slice 55])] fun j k l =>
 bd (Instr.buildSlice 46 1 #[(0,.agg #[vI 4,bZ,vI 0,vI 0,vI 0,.int .i32 0,vI 0,aZ,aC 0,vI 0])]) fun m n o =>
 bd (Builtin.append_ #[46,46] 46 #[.slice j k l,.slice m n o]) fun p q r =>
 T.loop [cR,aM] [.slice e f g,vI 0] fun s t u v =>
 bq v q
 (aR v q p fun w =>
 T.af (w.add (aH v 10)) (yI 64) fun x y z A B C D E F G H I =>
 T.new [vI 0,bZ,vI 0,vI 0,vI 0,.int .i32 0,vI 0,aZ,aC 0,vI 0] 55 fun J =>
 T.ax J [vI x,.string y,vI z,vI A,vI B,.int .i32 C,vI D,.slice E F G,aC H,vI I] <|
 T.af J (yI 64) fun K L M N O P Q R S U V W =>
 aT 41 [.agg #[vI K,.string L,vI M,vI N,vI O,.int .i32 P,vI Q,.slice R S U,aC V,vI W]] fun X =>
 cond X
 (T.af (J.add 7) (yL 64) fun Y Z a0 a1 =>
 eE 42 [.agg #[.slice Y Z a0,aC a1]] fun a2 =>
 T.new [vI 0,bZ] 131 fun a3 =>
 T.ax a3 [vI (t:Int),.string a2] <|
 T.af a3 [.int .i64,.string] fun a4 a5 =>
 bR (Instr.lookup 126 (.map c) (.agg #[vI a4,.string a5]) true) true [aM,ct] fun a6 a7 =>
 cond (!a7)
 (T.af (i.add 2) [.slice 53] fun a8 a9 b0 =>
 T.af a3 [.int .i64,.string] fun b1 b2 =>
 T.dZ Xaz (Instr.mapUpdate 126 (.map c) (.agg #[vI b1,.string b2]) (vI (a9:Int))) <|
 T.af (i.add 2) [.slice 53] fun b3 b4 b5 =>
 T.af (J.add 7) (yL 64) fun b6 b7 b8 b9 =>
 bd (Instr.buildSlice 28 1 #[(0,.agg #[.slice b6 b7 b8,aC b9])]) fun c0 c1 c2 =>
 bd (Builtin.append_ #[28,28] 28 #[.slice b3 b4 b5,.slice c0 c1 c2]) fun c3 c4 c5 =>
 T.ax (i.add 2) [.slice c3 c4 c5] <|
 T.dZ Xaz (Instr.mapUpdate 81 (.map b) (.agg #[vI h,vI v]) (.agg #[vI (t:Int),vI (a9:Int)])) <|
 T.again 1 [.slice s t u,aY v])
 (T.dZ Xaz (Instr.mapUpdate 81 (.map b) (.agg #[vI h,vI v]) (.agg #[vI (t:Int),vI a6])) <|
 T.again 1 [.slice s t u,aY v]))
 (T.af J [.int .i64] fun Y =>
 cond (Y==4)
 (T.af (i.add 2) [.slice 53] fun Z a0 a1 =>
 cond (decide ((a0:Int)>0))
 (T.ax (i.add 1) [vI v] <|
 T.af i [.int .i64,.int .i64,.slice 53] fun a2 a3 a4 a5 a6 =>
 bd (Instr.buildSlice 80 1 #[(0,.agg #[vI a2,vI a3,.slice a4 a5 a6])]) fun a7 a8 a9 =>
 bd (Builtin.append_ #[80,80] 80 #[.slice s t u,.slice a7 a8 a9]) fun b0 b1 b2 =>
 T.ax i [vI h,vI 0,aZ] <|
 T.again 1 [.slice b0 b1 b2,aY v])
 (T.again 1 [.slice s t u,aY v]))
 (T.again 1 [.slice s t u,aY v])))
 (T.again 0 [.slice s t u,aY h]))
 (bj #[.slice e f g,.map b]))
def BE (a:Xac):bS Xaz [] Tryz.f22 [.pointer a]=yE a:=av
end Go.Sx
