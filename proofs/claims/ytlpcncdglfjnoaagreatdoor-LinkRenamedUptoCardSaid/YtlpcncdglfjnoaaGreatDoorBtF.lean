/- Trees of functions. No condition. -/
import Derived.Test.YtlpcncdglfjnoaaGreatDoorSxF
import Derived.Test.YtlpcncdglfjnoaaGreatDoorProg
import Derived.KernelRfl
set_option linter.all false
set_option maxRecDepth 100000
set_option maxHeartbeats 4000000
namespace Go.Sx
open Go.Proofs
def jR (a:XC) (b:Int) (c:XA):T :=
 T.new [vI b,.string c] 110 fun d =>
 T.bd a fun e =>
 T.ae (e.add 2) [.map 110 3] fun f =>
 T.ae d [.int .i64,.string] fun g h =>
 bR (Instr.lookup 96 (.map f) (.agg #[vI g,.string h]) true) true [aK,cj] fun i j =>
 T.bd a fun k =>
 T.ae (k.add 3) [.map 110 3] fun l =>
 T.ae d [.int .i64,.string] fun m n =>
 bR (Instr.lookup 96 (.map l) (.agg #[vI m,.string n]) true) true [aK,cj] fun o p =>
 cond j
 dI
 (T.ret (.bool p))
def oY (a:XC) (b:Int) (c:XA):bQ YC [] Tryz.f95 [.pointer a,.agg #[vI b,.string c]]=jR a b c:=aw
def j1 (a:XC) (b:Int) (c:XA):T :=
 T.new [vI 0,ct] 110 fun d =>
 T.new [vI 0,ct] 110 fun e =>
 T.ao e [vI b,.string c] <|
 T.ae e [.int .i64,.string] fun f g =>
 aP 95 [.pointer a,.agg #[vI f,.string g]] fun h =>
 cond h
 (T.ae e [.int .i64,.string] fun i j =>
 T.ao d [vI i,.string j] <|
 T.ae d [.int .i64,.string] fun k l =>
 bI #[.agg #[vI k,.string l],.bool true])
 (T.bd a fun i =>
 T.ae (i.add 4) [.map 9 3] fun j =>
 bR (Instr.lookup 97 (.map j) (.string c) true) true [aK,cj] fun k l =>
 T.ao d [vI k,.string c] <|
 T.ae d [.int .i64,.string] fun m n =>
 bI #[.agg #[vI m,.string n],.bool l])
def oW (a:XC) (b:Int) (c:XA):bQ YC [] Tryz.f67 [.pointer a,vI b,.string c]=j1 a b c:=aw
def jH (a:XC) (b:Int) (c:XA):T :=
 T.new [vI b,.string c] 110 fun d =>
 T.bd a fun e =>
 T.ae (e.add 2) [.map 110 3] fun f =>
 T.ae d [.int .i64,.string] fun g h =>
 bR (Instr.lookup 96 (.map f) (.agg #[vI g,.string h]) true) true [aK,cj] fun i j =>
 cond j
 (nU 81 [vI i] fun k =>
 T.need ((((1+k.size):Nat):Int)<=9223372036854775807) <|
 T.ret (.string (⟨#[76]⟩++k)))
 (T.bd a fun k =>
 T.ae (k.add 3) [.map 110 3] fun l =>
 T.ae d [.int .i64,.string] fun m n =>
 bR (Instr.lookup 96 (.map l) (.agg #[vI m,.string n]) false) false [aK] fun o =>
 nU 81 [vI o] fun p =>
 T.az [(d,[vI m,.string n]),((k.add 3),[.map l])] <|
 T.need ((((1+p.size):Nat):Int)<=9223372036854775807) <|
 T.ret (.string (⟨#[69]⟩++p)))
def nz (a:XC) (b:Int) (c:XA):bQ YC [] Tryz.f47 [.pointer a,.agg #[vI b,.string c]]=jH a b c:=aw
def iw (a:XC) (b:Int) (c:XC) (d e:Nat) (f:Int):T :=
 T.new [.slice c d e,ar f] 60 fun g =>
 T.new [aM,ar 0] 60 fun h =>
 T.ae g [.slice 66] fun i j k =>
 aR (Instr.makeSlice 27 (vI 0) (vI (j:Int))) fun l m n =>
 T.ae g [.slice 66] fun o p q =>
 T.loop [(false,[.string]),cj,eb,aK] [ct,.bool false,.slice l m n,vI 0] fun r s t u v w =>
 bC w p
 (aT w p o fun x =>
 T.ae (x.add (ay w 2)) [.string,.int .u32] fun y z =>
 T.new [ct,ar 0] 66 fun A =>
 T.ao A [.string y,ar z] <|
 T.ae A [.string] fun B =>
 bq 67 [.pointer a,vI b,.string B] true [(true,[.int .i64,.string]),cj] fun C D E =>
 T.new [vI 0,ct] 110 fun F =>
 T.ao F [vI C,.string D] <|
 cond (!E)
 (T.ae A [.string] fun G =>
 T.ao h [aM,ar 0] <|
 T.az [(A,[.string G])] <|
 T.ae h (yL 66) fun H I J K =>
 bI #[.agg #[.slice H I J,ar K],.string G,.bool false])
 (T.ae A [.string] fun G =>
 T.ae F [.int .i64,.string] fun H I =>
 nU 47 [.pointer a,.agg #[vI H,.string I]] fun J =>
 T.az [(A,[.string G])] <|
 aR (Instr.buildSlice 57 1 #[(0,.agg #[.string J,ar 1])]) fun K L M =>
 T.az [(F,[vI H,.string I]),(A,[.string G])] <|
 aR (Instr.buildSlice 27 1 #[(0,.agg #[.string G,.slice K L M,ar 0])]) fun N O P =>
 T.az [(F,[vI H,.string I]),(A,[.string G])] <|
 aR (Builtin.append_ #[27,27] 27 #[.slice t u v,.slice N O P]) fun Q R S =>
 T.az [(F,[vI H,.string I]),(A,[.string G])] <|
 T.again 0 [.string r,.bool s,.slice Q R S,bo w]))
 (T.ae g (yL 66) fun x y z A =>
 bq 50 [.agg #[.slice x y z,ar A],.slice t u v] false [(true,(yL 66))] fun B C D E =>
 T.ao h [.slice B C D,ar E] <|
 T.ae h (yL 66) fun F G H I =>
 bI #[.agg #[.slice F G H,ar I],ct,.bool true])
def lK (a:XC) (b:Int) (c:XC) (d e:Nat) (f:Int):bQ YC [] Tryz.f46 [.pointer a,vI b,.agg #[.slice c d e,.int .u32 f]]=iw a b c d e f:=aw
def jG (a b:XC) (c d:Nat):T :=
 T.new [vI 0,vI 0,ct] 37 fun e =>
 T.loop [cj,aK] [.bool false,vI 0] fun f g =>
 bC g c
 (aT g c b fun h =>
 T.ae (h.add (ay g 4)) (yU 64 88) fun i j k l m n o p q r s t =>
 T.new [aM,aM,aM,aM] 30 fun u =>
 T.ao u [.slice i j k,.slice l m n,.slice o p q,.slice r s t] <|
 T.ae (u.add 3) [.slice 9] fun v w x =>
 T.loop [cj,aK] [.bool f,vI 0] fun y z =>
 bC z w
 (aT z w v fun A =>
 T.ae (A.add (ay z 1)) [.string] fun B =>
 T.bd a fun C =>
 T.ae (C.add 4) [.map 9 3] fun D =>
 bR (Instr.lookup 97 (.map D) (.string B) true) true [aK,cj] fun E F =>
 cond F
 (T.ao e [vI 22,vI g,.string B] <|
 T.ae e [.int .i64,.int .i64,.string] fun G H I =>
 bI #[.agg #[vI G,vI H,.string I],.bool true])
 (T.again 1 [.bool y,bo z]))
 (T.ae (u.add 3) [.slice 9] fun A B C =>
 T.loop [aK] [vI 0] fun D =>
 bC D B
 (aT D B A fun E =>
 T.ae (E.add (ay D 1)) [.string] fun F =>
 T.bd a fun G =>
 T.ae (G.add 4) [.map 9 3] fun H =>
 T.ek YC (Instr.mapUpdate 97 (.map H) (.string F) (vI g)) <|
 T.again 2 [bo D])
 (T.again 0 [.bool y,bo g])))
 (T.ao e [vI 0,vI 0,ct] <|
 T.ae e [.int .i64,.int .i64,.string] fun h i j =>
 bI #[.agg #[vI h,vI i,.string j],.bool false])
def mY (a b:XC) (c d:Nat):bQ YC [] Tryz.f44 [.pointer a,.slice b c d]=jG a b c d:=aw
def iQ (a b:XC) (c d:Nat):T :=
 T.loop [aK] [vI 0] fun e =>
 bC e c
 (aT e c b fun f =>
 T.ae (f.add (ay e 4)) (yU 64 88) fun g h i j k l m n o p q r =>
 T.new [aM,aM,aM,aM] 30 fun s =>
 T.ao s [.slice g h i,.slice j k l,.slice m n o,.slice p q r] <|
 T.ae s [.slice 64] fun t u v =>
 T.ae (s.add 1) [.slice 64] fun w x y =>
 aR (Instr.buildSlice 68 2 #[(0,.slice t u v),(1,.slice w x y)]) fun z A B =>
 T.loop [aK] [vI 0] fun C =>
 bC C A
 (aT C A z fun D =>
 T.ae (D.add (ay C 1)) [.slice 64] fun E F G =>
 T.loop [aK] [vI 0] fun H =>
 bC H F
 (aT H F E fun I =>
 T.ae (I.add (ay H 10)) (yI 66) fun J K L M N O P Q R S U V =>
 T.new [vI 0,ct,vI 0,vI 0,vI 0,.int .i32 0,vI 0,aM,ar 0,vI 0] 64 fun W =>
 T.ao W [vI J,.string K,vI L,vI M,vI N,.int .i32 O,vI P,.slice Q R S,ar U,vI V] <|
 T.ae W [.int .i64] fun X =>
 cond (X==1)
 (T.bd a fun Y =>
 T.ae (Y.add 2) [.map 110 3] fun Z =>
 T.ae (W.add 1) [.string] fun a0 =>
 T.bd a fun a1 =>
 T.ae (a1.add 1) [.slice 76] fun a2 a3 a4 =>
 T.ek YC (Instr.mapUpdate 96 (.map Z) (.agg #[vI e,.string a0]) (vI (a3:Int))) <|
 T.bd a fun a5 =>
 T.ae (a5.add 1) [.slice 76] fun a6 a7 a8 =>
 T.ae (W.add 1) [.string] fun a9 =>
 aR (Instr.buildSlice 43 1 #[(0,.agg #[vI e,vI C,vI H,.string a9])]) fun b0 b1 b2 =>
 T.az [((W.add 1),[.string a9]),((a5.add 1),[.slice a6 a7 a8])] <|
 aR (Builtin.append_ #[43,43] 43 #[.slice a6 a7 a8,.slice b0 b1 b2]) fun b3 b4 b5 =>
 T.az [((W.add 1),[.string a9])] <|
 T.bd a fun b6 =>
 T.ao (b6.add 1) [.slice b3 b4 b5] <|
 T.again 2 [bo H])
 (T.again 2 [bo H]))
 (T.again 1 [bo C]))
 (T.ae (s.add 2) [.slice 88] fun D E F =>
 T.loop [aK] [vI 0] fun G =>
 bC G E
 (aT G E D fun H =>
 T.ae (H.add (ay G 3)) [.string,.slice 66,.int .u32] fun I J K L M =>
 T.new [ct,aM,ar 0] 88 fun N =>
 T.ao N [.string I,.slice J K L,ar M] <|
 T.bd a fun O =>
 T.ae (O.add 3) [.map 110 3] fun P =>
 T.ae N [.string] fun Q =>
 T.bd a fun R =>
 T.ae (R.add 3) [.map 110 3] fun S =>
 bR (Builtin.len_ #[96] 3 #[.map S]) false [aK] fun U =>
 T.az [(N,[.string Q]),((O.add 3),[.map P])] <|
 T.ek YC (Instr.mapUpdate 96 (.map P) (.agg #[vI e,.string Q]) (vI U)) <|
 T.again 2 [bo G])
 (T.again 0 [bo e])))
 (bI #[])
def mC (a b:XC) (c d:Nat):bQ YC [] Tryz.f43 [.pointer a,.slice b c d]=iQ a b c d:=aw
def iG (a:XC) (b:Int) (c:XC) (d e:Nat):T :=
 bq 53 [.slice c d e] false [(false,[.slice 64])] fun f g h =>
 T.loop [eb,(false,[.string]),cj,aK] [aM,ct,.bool false,vI 0] fun i j k l m n =>
 bC n d
 (aT n d c fun o =>
 T.ae (o.add (ay n 10)) (yI 66) fun p q r s t u v w x y z A =>
 T.new [vI 0,ct,vI 0,vI 0,vI 0,.int .i32 0,vI 0,aM,ar 0,vI 0] 64 fun B =>
 T.ao B [vI p,.string q,vI r,vI s,vI t,.int .i32 u,vI v,.slice w x y,ar z,vI A] <|
 T.ae (B.add 7) (yL 66) fun C D E F =>
 bq 46 [.pointer a,vI b,.agg #[.slice C D E,ar F]] true [(true,(yL 66)),(false,[.string]),cj] fun G H I J K L =>
 T.new [aM,ar 0] 60 fun M =>
 T.ao M [.slice G H I,ar J] <|
 cond (!L)
 (bI #[aM,.string K,.bool false])
 (T.ae M (yL 66) fun N O P Q =>
 aT n g f fun R =>
 T.ao ((R.add (ay n 10)).add 7) [.slice N O P,ar Q] <|
 T.again 0 [.slice i j k,.string l,.bool m,bo n]))
 (bI #[.slice f g h,ct,.bool true])
def mv (a:XC) (b:Int) (c:XC) (d e:Nat):bQ YC [] Tryz.f45 [.pointer a,vI b,.slice c d e]=iG a b c d e:=aw
def vo (a:XC) (b c:Nat) (d:XC) (e f:Nat) (g:XC) (h i:Nat) (j:XC) (k l:Nat):T :=
 T.new [.slice a b c,.slice d e f,.slice g h i,.slice j k l] 30 fun m =>
 T.ae m (yU 64 88) fun n o p q r s t u v w x y =>
 dh 42 [.agg #[.slice n o p,.slice q r s,.slice t u v,.slice w x y]] fun z =>
 cond (z != 0)
 (T.ret (vI 0))
 (T.ae m [.slice 64] fun A B C =>
 T.loop [aK,aK] [vI 0,vI 0] fun D E =>
 bC E B
 (aT E B A fun F =>
 T.ae (F.add (ay E 10)) (yI 66) fun G H I J K L M N O P Q R =>
 T.new [vI 0,ct,vI 0,vI 0,vI 0,.int .i32 0,vI 0,aM,ar 0,vI 0] 64 fun S =>
 T.ao S [vI G,.string H,vI I,vI J,vI K,.int .i32 L,vI M,.slice N O P,ar Q,vI R] <|
 T.ae S [.int .i64] fun U =>
 cond (U==2)
 (T.ae (S.add 2) [.int .i64] fun V =>
 aP 82 [vI V] fun W =>
 cond W
 (T.again 0 [bo D,bo E])
 (T.again 0 [vI D,bo E]))
 (T.again 0 [vI D,bo E]))
 (T.ret (vI D)))
def yc (a:XC) (b c:Nat) (d:XC) (e f:Nat) (g:XC) (h i:Nat) (j:XC) (k l:Nat):bQ YC [] Tryz.f48 [.agg #[.slice a b c,.slice d e f,.slice g h i,.slice j k l]]=vo a b c d e f g h i j k l:=aw
def ft (a:XC) (b c:Nat):T :=
 aP 8 [.slice a b c] fun d =>
 cond d
 (aP 9 [] fun e =>
 T.ret (.bool e))
 (T.loop [cj,eb,aK] [.bool false,aM,vI 0] fun e f g h i =>
 bC i b
 (aT i b a fun j =>
 T.ae (j.add (ay i 4)) (yU 64 88) fun k l m n o p q r s t u v =>
 dh 10 [.agg #[.slice k l m,.slice n o p,.slice q r s,.slice t u v]] fun w =>
 cond (w != 0)
 (aP 9 [] fun x =>
 T.ret (.bool x))
 (aT i b a fun x =>
 T.ae (x.add (ay i 4)) (yU 64 88) fun y z A B C D E F G H I J =>
 bq 11 [.agg #[.slice y z A,.slice B C D,.slice E F G,.slice H I J]] false [(false,[.slice 9])] fun K L M =>
 T.loop [cj,aK] [.bool e,vI 0] fun N O =>
 bC O L
 (aT O L K fun P =>
 T.ae (P.add (ay O 1)) [.string] fun Q =>
 cond (decide ((Q.size:Int)>28))
 (aP 9 [] fun R =>
 T.ret (.bool R))
 (aT O L K fun R =>
 T.ae (R.add (ay O 1)) [.string] fun S =>
 cond (decide ((S.size:Int)>2))
 (aT O L K fun U =>
 T.ae (U.add (ay O 1)) [.string] fun V =>
 T.need (((0:Int)<=0)/\(((0:Int)<=2)/\(2<=(V.size:Int)))) <|
 cond ((ByteArray.toList (ByteArray.extract V 0 (Int.toNat 2)))==[(Ju 81#8),(Ju 95#8)])
 (aP 9 [] fun W =>
 T.ret (.bool W))
 (T.again 1 [.bool N,bo O]))
 (T.again 1 [.bool N,bo O])))
 (aT i b a fun P =>
 T.ae (P.add (ay i 4)) (yU 64 88) fun Q R S U V W X Y Z a0 a1 a2 =>
 aP 12 [.agg #[.slice Q R S,.slice U V W,.slice X Y Z,.slice a0 a1 a2]] fun a3 =>
 cond a3
 (aP 9 [] fun a4 =>
 T.ret (.bool a4))
 (aT i b a fun a4 =>
 T.ae (a4.add (ay i 4)) (yU 64 88) fun a5 a6 a7 a8 a9 b0 b1 b2 b3 b4 b5 b6 =>
 bq 13 [.agg #[.slice a5 a6 a7,.slice a8 a9 b0,.slice b1 b2 b3,.slice b4 b5 b6],.slice K L M] false [(true,(yU 64 88))] fun b7 b8 b9 c0 c1 c2 c3 c4 c5 c6 c7 c8 =>
 aR (Instr.buildSlice 22 1 #[(0,.agg #[.slice b7 b8 b9,.slice c0 c1 c2,.slice c3 c4 c5,.slice c6 c7 c8])]) fun c9 d0 d1 =>
 aR (Builtin.append_ #[22,22] 22 #[.slice f g h,.slice c9 d0 d1]) fun d2 d3 d4 =>
 T.again 0 [.bool N,.slice d2 d3 d4,bo i]))))
 (bq 14 [.slice a b c] true [(false,[.pointer 99]),(true,[.int .i64,.int .i64,.string])] fun j k l m =>
 T.new [vI 0,vI 0,ct] 37 fun n =>
 T.ao n [vI k,vI l,.string m] <|
 bq 14 [.slice f g h] true [(false,[.pointer 99]),(true,[.int .i64,.int .i64,.string])] fun o p q r =>
 T.new [vI 0,vI 0,ct] 37 fun s =>
 T.ao s [vI p,vI q,.string r] <|
 T.ae n [.int .i64] fun t =>
 T.ae s [.int .i64] fun u =>
 cond (t != u)
 bz
 (T.ae (n.add 1) [.int .i64] fun v =>
 T.ae (s.add 1) [.int .i64] fun w =>
 cond (v != w)
 bz
 (cond (!((/-?Option.isSome.match_1-/ match j with
 | some val=>false
 | none=>true)==(/-?Option.isSome.match_1-/ match o with
 | some val=>false
 | none=>true)))
 bz
 (cond (/-?Option.isSome.match_1-/ match j with
 | some val=>false
 | none=>true)
 (aP 9 [] fun x =>
 T.ret (.bool x))
 (T.loop [cj,aK] [.bool e,vI 0] fun x y =>
 bC y b
 (bq 17 [.pointer j,vI y,vI 0] false [(false,[.slice 64])] fun z A B =>
 bq 16 [.slice z A B] false [(false,[.slice 64])] fun C D E =>
 bq 17 [.pointer o,vI y,vI 0] false [(false,[.slice 64])] fun F G H =>
 bq 16 [.slice F G H] false [(false,[.slice 64])] fun I J K =>
 aP 15 [.slice C D E,.slice I J K] fun L =>
 cond (!L)
 bz
 (bq 17 [.pointer j,vI y,vI 1] false [(false,[.slice 64])] fun M N O =>
 bq 16 [.slice M N O] false [(false,[.slice 64])] fun P Q R =>
 bq 17 [.pointer o,vI y,vI 1] false [(false,[.slice 64])] fun S U V =>
 bq 16 [.slice S U V] false [(false,[.slice 64])] fun W X Y =>
 aP 15 [.slice P Q R,.slice W X Y] fun Z =>
 cond (!Z)
 bz
 (T.again 1 [.bool x,bo y])))
 (bq 18 [.pointer j] false [(false,[.slice 76])] fun z A B =>
 bq 18 [.pointer o] false [(false,[.slice 76])] fun C D E =>
 cond ((A:Int)==(D:Int))
 (dh 19 [.pointer j] fun F =>
 dh 19 [.pointer o] fun G =>
 cond (F==G)
 (aP 9 [] fun H =>
 T.ret (.bool H))
 bz)
 bz)))))))
def jb (a:XC) (b c:Nat):bQ YC [] Tryz.f3 [.slice a b c]=ft a b c:=aw
def iI (a:XC) (b c:Nat) (d:XC) (e f:Nat) (g:XC) (h i:Nat) (j:XC) (k l:Nat):T :=
 T.new [.slice a b c,.slice d e f,.slice g h i,.slice j k l] 30 fun m =>
 T.ae m [.slice 64] fun n o p =>
 T.ae (m.add 1) [.slice 64] fun q r s =>
 aR (Instr.buildSlice 26 0 #[]) fun t u v =>
 T.az [((m.add 1),[.slice q r s]),(m,[.slice n o p])] <|
 aR (Builtin.append_ #[26,26] 26 #[.slice t u v,.slice n o p]) fun w x y =>
 T.az [((m.add 1),[.slice q r s])] <|
 aR (Builtin.append_ #[26,26] 26 #[.slice w x y,.slice q r s]) fun z A B =>
 T.az [(m,[.slice n o p])] <|
 T.loop [eb,aK] [.slice z A B,vI 0] fun C D E F =>
 T.ae (m.add 2) [.slice 88] fun G H I =>
 bC F H
 (T.ae (m.add 2) [.slice 88] fun J K L =>
 aT F K J fun M =>
 T.ae ((M.add (ay F 3)).add 1) (yL 66) fun N O P Q =>
 aR (Instr.buildSlice 26 1 #[(0,.agg #[vI 0,ct,vI 0,vI 0,vI 0,.int .i32 0,vI 0,.slice N O P,ar Q,vI 0])]) fun R S U =>
 aR (Builtin.append_ #[26,26] 26 #[.slice C D E,.slice R S U]) fun V W X =>
 T.again 0 [.slice V W X,bo F])
 (T.loop [cj,aK] [.bool false,vI 0] fun J K =>
 bC K D
 (T.loop [cj,aK] [.bool J,vI 0] fun L M =>
 aT K D C fun N =>
 T.ae ((N.add (ay K 10)).add 7) [.slice 66] fun O P Q =>
 bC M P
 (aT K D C fun R =>
 T.ae ((R.add (ay K 10)).add 7) [.slice 66] fun S U V =>
 aT M U S fun W =>
 T.ae (W.add (ay M 2)) [.string] fun X =>
 cond (decide ((X.size:Int)>2))
 (T.need (((0:Int)<=0)/\(((0:Int)<=2)/\(2<=(X.size:Int)))) <|
 cond ((ByteArray.toList (ByteArray.extract X 0 (Int.toNat 2)))==[(Ju 81#8),(Ju 95#8)])
 dI
 (T.again 2 [.bool L,bo M]))
 (T.again 2 [.bool L,bo M]))
 (T.again 1 [.bool L,bo K]))
 bz)
def mK (a:XC) (b c:Nat) (d:XC) (e f:Nat) (g:XC) (h i:Nat) (j:XC) (k l:Nat):bQ YC [] Tryz.f12 [.agg #[.slice a b c,.slice d e f,.slice g h i,.slice j k l]]=iI a b c d e f g h i j k l:=aw
def gM (a:XC) (b c:Nat) (d:XC) (e f:Nat) (g:XC) (h i:Nat) (j:XC) (k l:Nat) (m:XC) (n o:Nat):T :=
 T.new [.slice a b c,.slice d e f,.slice g h i,.slice j k l] 30 fun p =>
 T.new [aM,aM,aM,aM] 30 fun q =>
 T.ae p (yU 64 88) fun r s t u v w x y z A B C =>
 bq 23 [.agg #[.slice r s t,.slice u v w,.slice x y z,.slice A B C]] false [(true,(yU 64 88))] fun D E F G H I J K L M N O =>
 T.new [aM,aM,aM,aM] 30 fun P =>
 T.ao P [.slice D E F,.slice G H I,.slice J K L,.slice M N O] <|
 T.ae P [.slice 64] fun Q R S =>
 T.ae (P.add 1) [.slice 64] fun U V W =>
 aR (Instr.buildSlice 68 2 #[(0,.slice Q R S),(1,.slice U V W)]) fun X Y Z =>
 T.loop [aK] [vI 0] fun a0 =>
 bC a0 Y
 (aT a0 Y X fun a1 =>
 T.ae (a1.add (ay a0 1)) [.slice 64] fun a2 a3 a4 =>
 T.loop [aK] [vI 0] fun a5 =>
 bC a5 a3
 (aT a5 a3 a2 fun a6 =>
 T.ae ((a6.add (ay a5 10)).add 1) [.string] fun a7 =>
 T.ae (p.add 3) [.slice 9] fun a8 a9 b0 =>
 nU 40 [.string a7,.slice m n o,.slice a8 a9 b0] fun b1 =>
 aT a5 a3 a2 fun b2 =>
 T.ao ((b2.add (ay a5 10)).add 1) [.string b1] <|
 aT a5 a3 a2 fun b3 =>
 T.ae ((b3.add (ay a5 10)).add 7) (yL 66) fun b4 b5 b6 b7 =>
 T.ae (p.add 3) [.slice 9] fun b8 b9 c0 =>
 bq 41 [.agg #[.slice b4 b5 b6,ar b7],.slice m n o,.slice b8 b9 c0] false [(true,(yL 66))] fun c1 c2 c3 c4 =>
 aT a5 a3 a2 fun c5 =>
 T.ao ((c5.add (ay a5 10)).add 7) [.slice c1 c2 c3,ar c4] <|
 T.again 1 [bo a5])
 (T.again 0 [bo a0]))
 (T.loop [aK] [vI 0] fun a1 =>
 T.ae (P.add 2) [.slice 88] fun a2 a3 a4 =>
 bC a1 a3
 (T.ae (P.add 2) [.slice 88] fun a5 a6 a7 =>
 T.ae (P.add 2) [.slice 88] fun a8 a9 b0 =>
 aT a1 a9 a8 fun b1 =>
 T.ae (b1.add (ay a1 3)) [.string] fun b2 =>
 T.ae (p.add 3) [.slice 9] fun b3 b4 b5 =>
 nU 40 [.string b2,.slice m n o,.slice b3 b4 b5] fun b6 =>
 T.az [((P.add 2),[.slice a8 a9 b0]),((P.add 2),[.slice a5 a6 a7])] <|
 aT a1 a6 a5 fun b7 =>
 T.ao (b7.add (ay a1 3)) [.string b6] <|
 T.ae (P.add 2) [.slice 88] fun b8 b9 c0 =>
 T.ae (P.add 2) [.slice 88] fun c1 c2 c3 =>
 aT a1 c2 c1 fun c4 =>
 T.ae ((c4.add (ay a1 3)).add 1) (yL 66) fun c5 c6 c7 c8 =>
 T.ae (p.add 3) [.slice 9] fun c9 d0 d1 =>
 bq 41 [.agg #[.slice c5 c6 c7,ar c8],.slice m n o,.slice c9 d0 d1] false [(true,(yL 66))] fun d2 d3 d4 d5 =>
 T.az [((P.add 2),[.slice c1 c2 c3]),((P.add 2),[.slice b8 b9 c0])] <|
 aT a1 b9 b8 fun d6 =>
 T.ao ((d6.add (ay a1 3)).add 1) [.slice d2 d3 d4,ar d5] <|
 T.again 1 [bo a1])
 (T.ae P (yU 64 88) fun a5 a6 a7 a8 a9 b0 b1 b2 b3 b4 b5 b6 =>
 T.ao q [.slice a5 a6 a7,.slice a8 a9 b0,.slice b1 b2 b3,.slice b4 b5 b6] <|
 T.ae q (yU 64 88) fun b7 b8 b9 c0 c1 c2 c3 c4 c5 c6 c7 c8 =>
 T.ret (.agg #[.slice b7 b8 b9,.slice c0 c1 c2,.slice c3 c4 c5,.slice c6 c7 c8])))
def kL (a:XC) (b c:Nat) (d:XC) (e f:Nat) (g:XC) (h i:Nat) (j:XC) (k l:Nat) (m:XC) (n o:Nat):bQ YC [] Tryz.f13 [.agg #[.slice a b c,.slice d e f,.slice g h i,.slice j k l],.slice m n o]=gM a b c d e f g h i j k l m n o:=aw
def iO (a:XC) (b c:Nat):T :=
 bq 52 [.slice a b c] false [(false,[.slice 64])] fun d e f =>
 T.loop [aK] [vI 0] fun g =>
 bC g e
 (aT g e d fun h =>
 T.ao ((h.add (ay g 10)).add 1) [ct] <|
 T.again 0 [bo g])
 (T.ret (.slice d e f))
def mJ (a:XC) (b c:Nat):bQ YC [] Tryz.f16 [.slice a b c]=iO a b c:=aw
def kZ (a:XA) (b:XC) (c d:Nat) (e:XC) (f g:Nat):T :=
 aP 38 [.slice b c d,.string a] fun h =>
 cond h
 (aP 38 [.slice e f g,.string a] fun i =>
 cond (!i)
 (T.need ((((2+a.size):Nat):Int)<=9223372036854775807) <|
 T.ret (.string (⟨#[81,95]⟩++a)))
 (T.ret (.string a)))
 (T.ret (.string a))
def pu (a:XA) (b:XC) (c d:Nat) (e:XC) (f g:Nat):bQ YC [] Tryz.f40 [.string a,.slice b c d,.slice e f g]=kZ a b c d e f g:=aw
def js (a:XC) (b c:Nat) (d:Int) (e:XC) (f g:Nat) (h:XC) (i j:Nat):T :=
 T.new [.slice a b c,ar d] 60 fun k =>
 T.new [aM,ar 0] 60 fun l =>
 T.ae (k.add 1) [.int .u32] fun m =>
 T.new [aM,ar 0] 60 fun n =>
 T.ao n [aM,ar m] <|
 T.loop [aK] [vI 0] fun o =>
 T.ae k [.slice 66] fun p q r =>
 bC o q
 (T.ae k [.slice 66] fun s t u =>
 aT o t s fun v =>
 T.ae (v.add (ay o 2)) [.string] fun w =>
 T.ae k [.slice 66] fun x y z =>
 aT o y x fun A =>
 T.ae ((A.add (ay o 2)).add 1) [.int .u32] fun B =>
 T.all [ (nU 40 [.string w,.slice e f g,.slice h i j] fun C =>
 T.az [(((A.add (ay o 2)).add 1),[ar B]),(k,[.slice x y z]),(k,[.slice s t u])] <|
 T.new [ct,ar 0] 66 fun D =>
 T.az [(((A.add (ay o 2)).add 1),[ar B]),(k,[.slice x y z]),((v.add (ay o 2)),[.string w]),(k,[.slice s t u])] <|
 T.ao D [.string C,ar B] <|
 T.ae n [.slice 66] fun E F G =>
 T.ae n [.slice 66] fun H I J =>
 T.ae D [.string,.int .u32] fun K L =>
 aR (Instr.buildSlice 57 1 #[(0,.agg #[.string K,ar L])]) fun M N O =>
 aR (Builtin.append_ #[57,57] 57 #[.slice H I J,.slice M N O]) fun P Q R =>
 T.ao n [.slice P Q R] <|
 T.loop [aK] [vI (F:Int)] fun S =>
 cond (decide (S>0))
 (T.ae n [.slice 66] fun U V W =>
 T.need ((0<=(bf (S-1)))/\((bf (S-1))<(V:Int))) <|
 T.bd U fun X =>
 T.ae (X.add ((Int.toNat (bf (S-1)))*2)) [.string] fun Y =>
 T.ae D [.string] fun Z =>
 cond (!((Op.bytesLess (ByteArray.toList Y) (ByteArray.toList Z)) || ((ByteArray.toList Y)==(ByteArray.toList Z))))
 (T.ae n [.slice 66] fun a0 a1 a2 =>
 T.ae n [.slice 66] fun a3 a4 a5 =>
 T.need ((0<=(bf (S-1)))/\((bf (S-1))<(a4:Int))) <|
 T.bd a3 fun a6 =>
 T.ae (a6.add ((Int.toNat (bf (S-1)))*2)) [.string,.int .u32] fun a7 a8 =>
 aT S a1 a0 fun a9 =>
 T.ao (a9.add (ay S 2)) [.string a7,ar a8] <|
 T.again 1 [vI (bf (S-1))])
 (T.ae n [.slice 66] fun a0 a1 a2 =>
 T.ae D [.string,.int .u32] fun a3 a4 =>
 aT S a1 a0 fun a5 =>
 T.ao (a5.add (ay S 2)) [.string a3,ar a4] <|
 T.again 0 [bo o]))
 (T.ae n [.slice 66] fun U V W =>
 T.ae D [.string,.int .u32] fun X Y =>
 aT S V U fun Z =>
 T.ao (Z.add (ay S 2)) [.string X,ar Y] <|
 T.again 0 [bo o])),
 (T.new [ct,ar 0] 66 fun C =>
 T.az [(((A.add (ay o 2)).add 1),[ar B]),(k,[.slice x y z]),((v.add (ay o 2)),[.string w]),(k,[.slice s t u])] <|
 nU 40 [.string w,.slice e f g,.slice h i j] fun D =>
 T.az [(((A.add (ay o 2)).add 1),[ar B]),(k,[.slice x y z]),(k,[.slice s t u])] <|
 T.ao C [.string D,ar B] <|
 T.ae n [.slice 66] fun E F G =>
 T.ae n [.slice 66] fun H I J =>
 T.ae C [.string,.int .u32] fun K L =>
 aR (Instr.buildSlice 57 1 #[(0,.agg #[.string K,ar L])]) fun M N O =>
 aR (Builtin.append_ #[57,57] 57 #[.slice H I J,.slice M N O]) fun P Q R =>
 T.ao n [.slice P Q R] <|
 T.loop [aK] [vI (F:Int)] fun S =>
 cond (decide (S>0))
 (T.ae n [.slice 66] fun U V W =>
 T.need ((0<=(bf (S-1)))/\((bf (S-1))<(V:Int))) <|
 T.bd U fun X =>
 T.ae (X.add ((Int.toNat (bf (S-1)))*2)) [.string] fun Y =>
 T.ae C [.string] fun Z =>
 cond (!((Op.bytesLess (ByteArray.toList Y) (ByteArray.toList Z)) || ((ByteArray.toList Y)==(ByteArray.toList Z))))
 (T.ae n [.slice 66] fun a0 a1 a2 =>
 T.ae n [.slice 66] fun a3 a4 a5 =>
 T.need ((0<=(bf (S-1)))/\((bf (S-1))<(a4:Int))) <|
 T.bd a3 fun a6 =>
 T.ae (a6.add ((Int.toNat (bf (S-1)))*2)) [.string,.int .u32] fun a7 a8 =>
 aT S a1 a0 fun a9 =>
 T.ao (a9.add (ay S 2)) [.string a7,ar a8] <|
 T.again 1 [vI (bf (S-1))])
 (T.ae n [.slice 66] fun a0 a1 a2 =>
 T.ae C [.string,.int .u32] fun a3 a4 =>
 aT S a1 a0 fun a5 =>
 T.ao (a5.add (ay S 2)) [.string a3,ar a4] <|
 T.again 0 [bo o]))
 (T.ae n [.slice 66] fun U V W =>
 T.ae C [.string,.int .u32] fun X Y =>
 aT S V U fun Z =>
 T.ao (Z.add (ay S 2)) [.string X,ar Y] <|
 T.again 0 [bo o]))])
 (T.ae n (yL 66) fun s t u v =>
 T.ao l [.slice s t u,ar v] <|
 T.ae l (yL 66) fun w x y z =>
 T.ret (.agg #[.slice w x y,ar z]))
def nu (a:XC) (b c:Nat) (d:Int) (e:XC) (f g:Nat) (h:XC) (i j:Nat):bQ YC [] Tryz.f41 [.agg #[.slice a b c,.int .u32 d],.slice e f g,.slice h i j]=js a b c d e f g h i j:=aw
end Go.Sx
