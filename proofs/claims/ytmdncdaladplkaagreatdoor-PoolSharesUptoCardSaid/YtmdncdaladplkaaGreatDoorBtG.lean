/- Trees of functions. No condition. -/
import Derived.Test.YtmdncdaladplkaaGreatDoorSxF
import Derived.Test.YtmdncdaladplkaaGreatDoorProg
import Derived.KernelRfl
set_option linter.all false
set_option maxRecDepth 100000
set_option maxHeartbeats 4000000
namespace Go.Sx
open Go.Proofs
def zE (a:Xac) (b c:Nat):T :=
 T.new [vI 0,vI 0,cm] 77 fun d =>
 cond ((b:Int)==0)
 (T.aD d [vI 25,vI 0,cm] <|
 T.af d [.int .i64,.int .i64,.string] fun e f g =>
 bG #[.pointer none,.agg #[vI e,vI f,.string g]])
 (cond (decide ((b:Int)>64))
 (T.aD d [vI 4,vI 0,cm] <|
 T.af d [.int .i64,.int .i64,.string] fun e f g =>
 bG #[.pointer none,.agg #[vI e,vI f,.string g]])
 (T.loop [(false,[.pointer 0]),aQ] [.pointer none,vI 0] fun e f =>
 bt f b
 (aY f b a fun g =>
 T.af (g.add (aI f 4)) (yU 55 116) fun h i j k l m n o p q r s =>
 T.new [bg,bg,bg,bg] 70 fun t =>
 T.aD t [.slice h i j,.slice k l m,.slice n o p,.slice q r s] <|
 T.af t (yU 55 116) fun u v w x y z A B C D E F =>
 cQ 30 [.agg #[.slice u v w,.slice x y z,.slice A B C,.slice D E F]] fun G =>
 cond (G != 0)
 (T.aD d [vI 31,vI f,cm] <|
 T.af d [.int .i64,.int .i64,.string] fun H I J =>
 bG #[.pointer none,.agg #[vI H,vI I,.string J]])
 (T.again 0 [.pointer e,bh f]))
 (bQ (Instr.makeMap 104 none) false [(false,[.map 0 0])] fun g =>
 bQ (Instr.makeMap 104 none) false [(false,[.map 0 0])] fun h =>
 bQ (Instr.makeMap 105 none) false [(false,[.map 0 0])] fun i =>
 T.new [bg,bg,.map g,.map h,.map i,bg,vI 0] 108 fun j =>
 bP 31 [.pointer (some j),.slice a b c] true [] <| bP 32 [.pointer (some j),.slice a b c] true [(true,[.int .i64,.int .i64,.string]),cn] fun k l m n =>
 T.new [vI 0,vI 0,cm] 77 fun o =>
 T.aD o [vI k,vI l,.string m] <|
 cond n
 (T.af o [.int .i64,.int .i64,.string] fun p q r =>
 T.bi [(o,[vI p,vI q,.string r])] <|
 T.aD d [vI p,vI q,.string r] <|
 T.af d [.int .i64,.int .i64,.string] fun s t u =>
 bG #[.pointer none,.agg #[vI s,vI t,.string u]])
 (T.loop [(false,[.pointer 0]),cY,cY,aQ] [.pointer e,bg,bg,vI 0] fun p q r s t u v w =>
 bt w b
 (aY w b a fun x =>
 T.af (x.add (aI w 4)) (yU 55 116) fun y z A B C D E F G H I J =>
 T.new [bg,bg,bg,bg] 70 fun K =>
 T.aD K [.slice y z A,.slice B C D,.slice E F G,.slice H I J] <|
 T.new [bg,bg,bg,bg] 70 fun L =>
 T.af K [.slice 55] fun M N O =>
 bP 33 [.pointer (some j),vI w,.slice M N O] true [(false,[.slice 55]),(false,[.string]),cn] fun P Q R S U =>
 T.aD L [.slice P Q R] <|
 cond (!U)
 (T.aD d [vI 23,vI w,.string S] <|
 T.af d [.int .i64,.int .i64,.string] fun V W X =>
 bG #[.pointer none,.agg #[vI V,vI W,.string X]])
 (T.af (K.add 1) [.slice 55] fun V W X =>
 bP 33 [.pointer (some j),vI w,.slice V W X] true [(false,[.slice 55]),(false,[.string]),cn] fun Y Z a0 a1 a2 =>
 T.aD (L.add 1) [.slice Y Z a0] <|
 cond (!a2)
 (T.aD d [vI 23,vI w,.string a1] <|
 T.af d [.int .i64,.int .i64,.string] fun a3 a4 a5 =>
 bG #[.pointer none,.agg #[vI a3,vI a4,.string a5]])
 (T.af (K.add 2) [.slice 116] fun a3 a4 a5 =>
 T.loop [(false,[.pointer 0]),cY,cY,aQ] [.pointer p,.slice q r s,.slice t u v,vI 0] fun a6 a7 a8 a9 b0 b1 b2 b3 =>
 bt b3 a4
 (aY b3 a4 a3 fun b4 =>
 T.af (b4.add (aI b3 3)) [.string,.slice 64,.int .u32] fun b5 b6 b7 b8 b9 =>
 T.new [cm,bg,aF 0] 116 fun c0 =>
 T.aD c0 [.string b5,.slice b6 b7 b8,aF b9] <|
 T.af (c0.add 1) (yL 64) fun c1 c2 c3 c4 =>
 bP 34 [.pointer (some j),vI w,.agg #[.slice c1 c2 c3,aF c4]] true [(true,(yL 64)),(false,[.string]),cn] fun c5 c6 c7 c8 c9 d0 =>
 T.new [bg,aF 0] 53 fun d1 =>
 T.aD d1 [.slice c5 c6 c7,aF c8] <|
 cond (!d0)
 (T.aD d [vI 23,vI w,.string c9] <|
 T.af d [.int .i64,.int .i64,.string] fun d2 d3 d4 =>
 bG #[.pointer none,.agg #[vI d2,vI d3,.string d4]])
 (T.af c0 [.string] fun d2 =>
 T.af d1 (yL 64) fun d3 d4 d5 d6 =>
 eG 35 [.pointer (some j),.agg #[vI w,.string d2]] fun d7 =>
 T.bi [(d1,[.slice d3 d4 d5,aF d6]),(c0,[.string d2])] <|
 bn (Instr.buildSlice 67 1 #[(0,.agg #[.string d7,.slice d3 d4 d5,aF d6])]) fun d8 d9 e0 =>
 T.bi [(d1,[.slice d3 d4 d5,aF d6]),(c0,[.string d2])] <|
 bn (Builtin.append_ #[67,67] 67 #[.slice a7 a8 a9,.slice d8 d9 e0]) fun e1 e2 e3 =>
 T.bi [(d1,[.slice d3 d4 d5,aF d6]),(c0,[.string d2])] <|
 T.af c0 [.string] fun e4 =>
 bn (Instr.buildSlice 112 1 #[(0,.agg #[vI w,.string e4])]) fun e5 e6 e7 =>
 bn (Builtin.append_ #[112,112] 112 #[.slice b0 b1 b2,.slice e5 e6 e7]) fun e8 e9 f0 =>
 T.again 2 [.pointer a6,.slice e1 e2 e3,.slice e8 e9 f0,bh b3]))
 (T.af j [.slice 70] fun b4 b5 b6 =>
 T.af L (yU 55 116) fun b7 b8 b9 c0 c1 c2 c3 c4 c5 c6 c7 c8 =>
 bn (Instr.buildSlice 32 1 #[(0,.agg #[.slice b7 b8 b9,.slice c0 c1 c2,.slice c3 c4 c5,.slice c6 c7 c8])]) fun c9 d0 d1 =>
 T.bi [(j,[.slice b4 b5 b6])] <|
 bn (Builtin.append_ #[32,32] 32 #[.slice b4 b5 b6,.slice c9 d0 d1]) fun d2 d3 d4 =>
 T.bi [(L,[.slice b7 b8 b9,.slice c0 c1 c2,.slice c3 c4 c5,.slice c6 c7 c8])] <|
 T.aD j [.slice d2 d3 d4] <|
 T.af (j.add 6) [.int .i64] fun d5 =>
 T.af K (yU 55 116) fun d6 d7 d8 d9 e0 e1 e2 e3 e4 e5 e6 e7 =>
 cQ 36 [.agg #[.slice d6 d7 d8,.slice d9 e0 e1,.slice e2 e3 e4,.slice e5 e6 e7]] fun e8 =>
 T.bi [((j.add 6),[vI d5])] <|
 T.aD (j.add 6) [vI (bq (d5+e8))] <|
 T.again 1 [.pointer a6,.slice a7 a8 a9,.slice b0 b1 b2,bh w]))))
 (bP 37 [.slice q r s] true [(false,[.slice 116]),aQ,aQ] fun x y z A B =>
 cond (B != 0)
 (aY A u t fun C =>
 T.af (C.add (aI A 2)) [.int .i64] fun D =>
 aY A u t fun E =>
 T.af ((E.add (aI A 2)).add 1) [.string] fun F =>
 T.bi [(((E.add (aI A 2)).add 1),[.string F]),((C.add (aI A 2)),[vI D])] <|
 T.aD d [vI B,vI D,.string F] <|
 T.af d [.int .i64,.int .i64,.string] fun G H I =>
 bG #[.pointer none,.agg #[vI G,vI H,.string I]])
 (T.af j [.slice 70] fun C D E =>
 T.loop [aQ] [vI 0] fun F =>
 bt F D
 (aY F D C fun G =>
 T.af (G.add (aI F 4)) (yU 55 116) fun H I J K L M N O P Q R S =>
 T.new [bg,bg,bg,bg] 70 fun U =>
 T.aD U [.slice H I J,.slice K L M,.slice N O P,.slice Q R S] <|
 T.af U [.slice 55] fun V W X =>
 T.af (U.add 1) [.slice 55] fun Y Z a0 =>
 bn (Instr.buildSlice 43 2 #[(0,.slice V W X),(1,.slice Y Z a0)]) fun a1 a2 a3 =>
 T.loop [aQ] [vI 0] fun a4 =>
 bt a4 a2
 (aY a4 a2 a1 fun a5 =>
 T.af (a5.add (aI a4 1)) [.slice 55] fun a6 a7 a8 =>
 T.loop [aQ] [vI 0] fun a9 =>
 bt a9 a7
 (aY a9 a7 a6 fun b0 =>
 T.af ((b0.add (aI a9 10)).add 7) (yL 64) fun b1 b2 b3 b4 =>
 bP 38 [.agg #[.slice b1 b2 b3,aF b4],.slice x y z] false [(true,(yL 64))] fun b5 b6 b7 b8 =>
 aY a9 a7 a6 fun b9 =>
 T.aD ((b9.add (aI a9 10)).add 7) [.slice b5 b6 b7,aF b8] <|
 T.again 4 [bh a9])
 (T.again 3 [bh a4]))
 (T.again 2 [bh F]))
 (T.aD d [vI 0,vI 0,cm] <|
 T.af d [.int .i64,.int .i64,.string] fun G H I =>
 bG #[.pointer (some j),.agg #[vI G,vI H,.string I]])))))))
def AX (a:Xac) (b c:Nat):bZ Xaz [] Tryz.f21 [.slice a b c]=zE a b c:=ax
def nC (a:Xac) (b c:Nat):T :=
 aZ 23 [.slice a b c] fun d =>
 cond d
 (bG #[.pointer none,.pointer none,.bool false,.bool true])
 (bP 21 [.slice a b c] true [(false,[.pointer 108]),(true,[.int .i64,.int .i64,.string])] fun e f g h =>
 T.new [vI 0,vI 0,cm] 77 fun i =>
 T.aD i [vI f,vI g,.string h] <|
 bP 24 [.slice a b c] true [(false,[.pointer 45]),(true,[.int .i64,.int .i64,.string])] fun j k l m =>
 T.new [vI 0,vI 0,cm] 91 fun n =>
 T.aD n [vI k,vI l,.string m] <|
 T.af i [.int .i64] fun o =>
 T.af n [.int .i64] fun p =>
 cond (o==p)
 (T.af (i.add 1) [.int .i64] fun q =>
 T.af (n.add 1) [.int .i64] fun r =>
 cond (q==r)
 (T.af (i.add 2) [.string] fun s =>
 T.af (n.add 2) [.string] fun t =>
 cond ((ByteArray.toList s)==(ByteArray.toList t))
 (T.af n [.int .i64] fun u =>
 cond ((!(/-?Option.isSome.match_1-/ match e with
 | some val=>false
 | none=>true))==(u==0))
 (bG #[.pointer e,.pointer j,.bool (!(/-?Option.isSome.match_1-/ match e with
 | some val=>false
 | none=>true)),.bool ((!(/-?Option.isSome.match_1-/ match e with
 | some val=>false
 | none=>true))==(u==0))])
 (bG #[.pointer e,.pointer j,.bool false,.bool ((!(/-?Option.isSome.match_1-/ match e with
 | some val=>false
 | none=>true))==(u==0))]))
 (bG #[.pointer e,.pointer j,.bool false,.bool false]))
 (bG #[.pointer e,.pointer j,.bool false,.bool false]))
 (bG #[.pointer e,.pointer j,.bool false,.bool false]))
def sX (a:Xac) (b c:Nat):bZ Xaz [] Tryz.f11 [.slice a b c]=nC a b c:=ax
def xu (a:Xac):T :=
 bP 22 [.pointer a] true [(false,[.slice 84]),(false,[.map 89 86])] fun b c d e =>
 T.loop [cY,aQ] [bg,vI 0] fun f g h i =>
 bt i c
 (aY i c b fun j =>
 T.af (j.add (aI i 3)) [.int .i64,.int .i64,.slice 53] fun k l m n o =>
 T.new [vI 0,vI 0,bg] 84 fun p =>
 T.aD p [vI k,vI l,.slice m n o] <|
 T.af p [.int .i64,.int .i64,.slice 53] fun q r s t u =>
 bn (Instr.buildSlice 24 1 #[(0,.agg #[vI q,vI r,.slice s t u])]) fun v w x =>
 bn (Builtin.append_ #[24,24] 24 #[.slice f g h,.slice v w x]) fun y z A =>
 T.again 0 [.slice y z A,bh i])
 (T.ret (.slice f g h))
def zY (a:Xac):bZ Xaz [] Tryz.f8 [.pointer a]=xu a:=ax
def zJ (a:Xac) (b c:Int):T :=
 bP 22 [.pointer a] true [(false,[.slice 84]),(false,[.map 89 86])] fun d e f g =>
 bQ (Instr.lookup 81 (.map g) (.agg #[vI b,vI c]) true) true [(true,[.int .i64,.int .i64]),cn] fun h i j =>
 T.new [vI 0,vI 0] 86 fun k =>
 T.aD k [vI h,vI i] <|
 T.af k [.int .i64] fun l =>
 T.af (k.add 1) [.int .i64] fun m =>
 T.bi [((k.add 1),[vI m])] <|
 bG #[vI l,vI m,.bool j]
def Cc (a:Xac) (b c:Int):bZ Xaz [] Tryz.f9 [.pointer a,vI b,vI c]=zJ a b c:=ax
def kf (a:Int) (b:Xaa) (c d e f g:Int) (h:Xac) (i j:Nat) (k l:Int):T :=
 T.new [vI a,.string b,vI c,vI d,vI e,.int .i32 f,vI g,.slice h i j,aF k,vI l] 55 fun m =>
 T.af m [.int .i64] fun n =>
 cond (n==2)
 (T.af (m.add 2) [.int .i64] fun o =>
 cQ 26 [vI o] fun p =>
 T.ret (.bool (p==11)))
 bz
def pt (a:Int) (b:Xaa) (c d e f g:Int) (h:Xac) (i j:Nat) (k l:Int):bZ Xaz [] Tryz.f15 [.agg #[vI a,.string b,vI c,vI d,vI e,.int .i32 f,vI g,.slice h i j,.int .u32 k,vI l]]=kf a b c d e f g h i j k l:=ax
def wh (a:Int) (b:Xaa) (c d e f g:Int) (h:Xac) (i j:Nat) (k l:Int):T :=
 T.new [vI a,.string b,vI c,vI d,vI e,.int .i32 f,vI g,.slice h i j,aF k,vI l] 55 fun m =>
 T.af (m.add 2) [.int .i64] fun n =>
 bP 67 [vI n] true [(true,[.string,.int .u8,.int .i64]),cn] fun o p q r =>
 T.new [cm,.int .u8 0,vI 0] 171 fun s =>
 T.aD s [.string o,.int .u8 p,vI q] <|
 T.af m [.int .i64] fun t =>
 cond (t==2)
 (T.af (s.add 2) [.int .i64] fun u =>
 T.ret (.bool (u==11)))
 bz
def zR (a:Int) (b:Xaa) (c d e f g:Int) (h:Xac) (i j:Nat) (k l:Int):bZ Xaz [] Tryz.f41 [.agg #[vI a,.string b,vI c,vI d,vI e,.int .i32 f,vI g,.slice h i j,.int .u32 k,vI l]]=wh a b c d e f g h i j k l:=ax
def kY (a:Xac) (b c:Nat) (d:Int) (e:Xac) (f g:Nat) (h:Int):T :=
 T.new [.slice a b c,aF d] 53 fun i =>
 T.new [.slice e f g,aF h] 53 fun j =>
 T.af (i.add 1) [.int .u32] fun k =>
 T.af (j.add 1) [.int .u32] fun l =>
 cond (k != l)
 bz
 (T.af i [.slice 64] fun m n o =>
 T.af j [.slice 64] fun p q r =>
 cond ((n:Int) != (q:Int))
 bz
 (T.loop [cn,aQ] [.bool false,vI 0] fun s t =>
 T.af i [.slice 64] fun u v w =>
 bt t v
 (T.af i [.slice 64] fun x y z =>
 aY t y x fun A =>
 T.af (A.add (aI t 2)) [.string,.int .u32] fun B C =>
 T.af j [.slice 64] fun D E F =>
 aY t E D fun G =>
 T.af (G.add (aI t 2)) [.string,.int .u32] fun H I =>
 fh (Sx.lW (BinOp.neq) 64 (Operand.tmp 31) (Operand.tmp 36) (.agg #[.string B,aF C]) (.agg #[.string H,aF I])) fun J =>
 T.bi [(j,[.slice D E F]),(i,[.slice x y z])] <|
 cond J
 bz
 (T.again 0 [.bool s,bh t]))
 ez))
def qb (a:Xac) (b c:Nat) (d:Int) (e:Xac) (f g:Nat) (h:Int):bZ Xaz [] Tryz.f16 [.agg #[.slice a b c,.int .u32 d],.agg #[.slice e f g,.int .u32 h]]=kY a b c d e f g h:=ax
def yY (a:Xac):T :=
 bQ (Instr.makeMap 81 none) false [(false,[.map 0 0])] fun b =>
 cond (/-?Option.isSome.match_1-/ match a with
 | some val=>false
 | none=>true)
 (bG #[bg,.map b])
 (bQ (Instr.makeMap 126 none) false [(false,[.map 0 0])] fun c =>
 cQ 39 [.pointer a] fun d =>
 T.loop [cY,aQ] [bg,vI 0] fun e f g h =>
 cond (decide (h<d))
 (T.new [vI 0,vI 0,bg] 84 fun i =>
 T.aD i [vI h,vI 0,bg] <|
 bP 40 [.pointer a,vI h,vI 0] false [(false,[.slice 55])] fun j k l =>
 bn (Instr.buildSlice 46 1 #[(0,.agg #[vI 4,cm,vI 0,vI 0,vI 0,.int .i32 0,vI 0,bg,aF 0,vI 0])]) fun m n o =>
 bn (Builtin.append_ #[46,46] 46 #[.slice j k l,.slice m n o]) fun p q r =>
 T.loop [cY,aQ] [.slice e f g,vI 0] fun s t u v =>
 bt v q
 (aY v q p fun w =>
 T.af (w.add (aI v 10)) (yI 64) fun x y z A B C D E F G H I =>
 T.new [vI 0,cm,vI 0,vI 0,vI 0,.int .i32 0,vI 0,bg,aF 0,vI 0] 55 fun J =>
 T.aD J [vI x,.string y,vI z,vI A,vI B,.int .i32 C,vI D,.slice E F G,aF H,vI I] <|
 T.af J (yI 64) fun K L M N O P Q R S U V W =>
 aZ 41 [.agg #[vI K,.string L,vI M,vI N,vI O,.int .i32 P,vI Q,.slice R S U,aF V,vI W]] fun X =>
 cond X
 (T.af (J.add 7) (yL 64) fun Y Z a0 a1 =>
 eG 42 [.agg #[.slice Y Z a0,aF a1]] fun a2 =>
 T.new [vI 0,cm] 131 fun a3 =>
 T.aD a3 [vI (t:Int),.string a2] <|
 T.af a3 [.int .i64,.string] fun a4 a5 =>
 bQ (Instr.lookup 126 (.map c) (.agg #[vI a4,.string a5]) true) true [aQ,cn] fun a6 a7 =>
 cond (!a7)
 (T.af (i.add 2) [.slice 53] fun a8 a9 b0 =>
 T.af a3 [.int .i64,.string] fun b1 b2 =>
 T.dX Xaz (Instr.mapUpdate 126 (.map c) (.agg #[vI b1,.string b2]) (vI (a9:Int))) <|
 T.af (i.add 2) [.slice 53] fun b3 b4 b5 =>
 T.af (J.add 7) (yL 64) fun b6 b7 b8 b9 =>
 bn (Instr.buildSlice 28 1 #[(0,.agg #[.slice b6 b7 b8,aF b9])]) fun c0 c1 c2 =>
 bn (Builtin.append_ #[28,28] 28 #[.slice b3 b4 b5,.slice c0 c1 c2]) fun c3 c4 c5 =>
 T.aD (i.add 2) [.slice c3 c4 c5] <|
 T.dX Xaz (Instr.mapUpdate 81 (.map b) (.agg #[vI h,vI v]) (.agg #[vI (t:Int),vI (a9:Int)])) <|
 T.again 1 [.slice s t u,bh v])
 (T.dX Xaz (Instr.mapUpdate 81 (.map b) (.agg #[vI h,vI v]) (.agg #[vI (t:Int),vI a6])) <|
 T.again 1 [.slice s t u,bh v]))
 (T.af J [.int .i64] fun Y =>
 cond (Y==4)
 (T.af (i.add 2) [.slice 53] fun Z a0 a1 =>
 cond (decide ((a0:Int)>0))
 (T.aD (i.add 1) [vI v] <|
 T.af i [.int .i64,.int .i64,.slice 53] fun a2 a3 a4 a5 a6 =>
 bn (Instr.buildSlice 80 1 #[(0,.agg #[vI a2,vI a3,.slice a4 a5 a6])]) fun a7 a8 a9 =>
 bn (Builtin.append_ #[80,80] 80 #[.slice s t u,.slice a7 a8 a9]) fun b0 b1 b2 =>
 T.aD i [vI h,vI 0,bg] <|
 T.again 1 [.slice b0 b1 b2,bh v])
 (T.again 1 [.slice s t u,bh v]))
 (T.again 1 [.slice s t u,bh v])))
 (T.again 0 [.slice s t u,bh h]))
 (bG #[.slice e f g,.map b]))
def BM (a:Xac):bZ Xaz [] Tryz.f22 [.pointer a]=yY a:=ax
def gp (a:Xac) (b c:Nat):T :=
 bP 11 [.slice a b c] true [(false,[.pointer 108]),(false,[.pointer 45]),cn,cn] fun d e f g =>
 cond (!f)
 (cond g
 (aZ 10 [] fun h =>
 T.ret (.bool h))
 bz)
 (bP 8 [.pointer d] false [(false,[.slice 30])] fun h i j =>
 bQ (Instr.makeMap 41 none) false [(false,[.map 0 0])] fun k =>
 T.loop [cn,aQ] [.bool false,vI 0] fun l m =>
 T.bf e fun n =>
 T.af (n.add 2) [.slice 46] fun o p q =>
 bt m p
 (T.loop [cn,aQ] [.bool l,vI 0] fun r s =>
 T.bf e fun t =>
 T.af (t.add 2) [.slice 46] fun u v w =>
 aY m v u fun x =>
 T.af (x.add (aI m 1)) [.slice 55] fun y z A =>
 bt s z
 (bP 9 [.pointer d,vI m,vI s] true [aQ,aQ,cn] fun B C D =>
 T.bf e fun E =>
 T.af (E.add 2) [.slice 46] fun F G H =>
 aY m G F fun I =>
 T.af (I.add (aI m 1)) [.slice 55] fun J K L =>
 aY s K J fun M =>
 T.af (M.add (aI s 10)) (yI 64) fun N O P Q R S U V W X Y Z =>
 aZ 15 [.agg #[vI N,.string O,vI P,vI Q,vI R,.int .i32 S,vI U,.slice V W X,aF Y,vI Z]] fun a0 =>
 cond (!(D==a0))
 bz
 (cond (!D)
 (T.again 1 [.bool r,bh s])
 (cond (decide (B<0))
 bz
 (cond (decide (B>=(i:Int)))
 bz
 (cond (decide (C<0))
 bz
 (aY B i h fun a1 =>
 T.af ((a1.add (aI B 3)).add 2) [.slice 53] fun a2 a3 a4 =>
 cond (decide (C>=(a3:Int)))
 bz
 (aY B i h fun a5 =>
 T.af (a5.add (aI B 3)) [.int .i64] fun a6 =>
 cond (a6 != m)
 bz
 (aY B i h fun a7 =>
 T.af ((a7.add (aI B 3)).add 1) [.int .i64] fun a8 =>
 cond (decide (a8<=s))
 bz
 (aY B i h fun a9 =>
 T.af ((a9.add (aI B 3)).add 2) [.slice 53] fun b0 b1 b2 =>
 aY C b1 b0 fun b3 =>
 T.af (b3.add (aI C 2)) (yL 64) fun b4 b5 b6 b7 =>
 T.bf e fun b8 =>
 T.af (b8.add 2) [.slice 46] fun b9 c0 c1 =>
 aY m c0 b9 fun c2 =>
 T.af (c2.add (aI m 1)) [.slice 55] fun c3 c4 c5 =>
 aY s c4 c3 fun c6 =>
 T.af ((c6.add (aI s 10)).add 7) (yL 64) fun c7 c8 c9 d0 =>
 aZ 16 [.agg #[.slice b4 b5 b6,aF b7],.agg #[.slice c7 c8 c9,aF d0]] fun d1 =>
 T.bi [((c2.add (aI m 1)),[.slice c3 c4 c5]),((b8.add 2),[.slice b9 c0 c1]),(((a9.add (aI B 3)).add 2),[.slice b0 b1 b2]),(((a7.add (aI B 3)).add 1),[vI a8]),((a5.add (aI B 3)),[vI a6]),(((a1.add (aI B 3)).add 2),[.slice a2 a3 a4])] <|
 cond (!d1)
 bz
 (T.loop [cn,aQ] [.bool r,bh s] fun d2 d3 =>
 aY B i h fun d4 =>
 T.af ((d4.add (aI B 3)).add 1) [.int .i64] fun d5 =>
 cond (decide (d3<d5))
 (T.bf e fun d6 =>
 T.af (d6.add 2) [.slice 46] fun d7 d8 d9 =>
 aY m d8 d7 fun e0 =>
 T.af (e0.add (aI m 1)) [.slice 55] fun e1 e2 e3 =>
 aY d3 e2 e1 fun e4 =>
 T.af (e4.add (aI d3 10)) [.int .i64] fun e5 =>
 cond (e5==4)
 bz
 (T.again 2 [.bool d2,bh d3]))
 (T.bf e fun d6 =>
 T.af (d6.add 2) [.slice 46] fun d7 d8 d9 =>
 aY m d8 d7 fun e0 =>
 T.af (e0.add (aI m 1)) [.slice 55] fun e1 e2 e3 =>
 aY s e2 e1 fun e4 =>
 T.af ((e4.add (aI s 10)).add 7) (yL 64) fun e5 e6 e7 e8 =>
 T.dX Xaz (Instr.mapUpdate 41 (.map k) (.agg #[vI B,vI C]) (.agg #[.slice e5 e6 e7,aF e8])) <|
 T.again 1 [.bool d2,bh s])))))))))))
 (T.again 0 [.bool r,bh m]))
 (T.loop [cn,aQ,aQ] [.bool l,vI 0,vI 0] fun r s t =>
 bt t i
 (aY t i h fun u =>
 T.af ((u.add (aI t 3)).add 2) [.slice 53] fun v w x =>
 T.loop [cn,aQ] [.bool r,vI 0] fun y z =>
 aY t i h fun A =>
 T.af ((A.add (aI t 3)).add 2) [.slice 53] fun B C D =>
 bt z C
 (T.loop [cn,aQ] [.bool y,vI 0] fun E F =>
 cond (decide (F<z))
 (aY t i h fun G =>
 T.af ((G.add (aI t 3)).add 2) [.slice 53] fun H I J =>
 aY z I H fun K =>
 T.af (K.add (aI z 2)) (yL 64) fun L M N O =>
 aY t i h fun P =>
 T.af ((P.add (aI t 3)).add 2) [.slice 53] fun Q R S =>
 aY F R Q fun U =>
 T.af (U.add (aI F 2)) (yL 64) fun V W X Y =>
 aZ 16 [.agg #[.slice L M N,aF O],.agg #[.slice V W X,aF Y]] fun Z =>
 T.bi [(((P.add (aI t 3)).add 2),[.slice Q R S]),(((G.add (aI t 3)).add 2),[.slice H I J])] <|
 cond Z
 bz
 (T.again 3 [.bool E,bh F]))
 (T.again 2 [.bool E,bh z]))
 (T.again 1 [.bool y,vI (bq (s+(w:Int))),bh t]))
 (bQ (Builtin.len_ #[41] 3 #[.map k]) false [aQ] fun u =>
 cond (s==u)
 (aZ 10 [] fun v =>
 T.ret (.bool v))
 bz)))
def kA (a:Xac) (b c:Nat):bZ Xaz [] Tryz.f5 [.slice a b c]=gp a b c:=ax
end Go.Sx
