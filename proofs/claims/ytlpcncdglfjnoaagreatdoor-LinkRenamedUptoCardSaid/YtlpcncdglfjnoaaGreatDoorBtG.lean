/- Trees of functions. No condition. -/
import Derived.Test.YtlpcncdglfjnoaaGreatDoorSxF
import Derived.Test.YtlpcncdglfjnoaaGreatDoorProg
import Derived.KernelRfl
set_option linter.all false
set_option maxRecDepth 100000
set_option maxHeartbeats 4000000
namespace Go.Sx
open Go.Proofs
def xR (a:XC) (b c:Nat):T :=
 T.new [vI 0,vI 0,ct] 37 fun d =>
 cond ((b:Int)==0)
 (T.ao d [vI 25,vI 0,ct] <|
 T.ae d [.int .i64,.int .i64,.string] fun e f g =>
 bI #[.pointer none,.agg #[vI e,vI f,.string g]])
 (cond (decide ((b:Int)>64))
 (T.ao d [vI 4,vI 0,ct] <|
 T.ae d [.int .i64,.int .i64,.string] fun e f g =>
 bI #[.pointer none,.agg #[vI e,vI f,.string g]])
 (T.loop [(false,[.pointer 0]),aK] [.pointer none,vI 0] fun e f =>
 bC f b
 (aT f b a fun g =>
 T.ae (g.add (ay f 4)) (yU 64 88) fun h i j k l m n o p q r s =>
 T.new [aM,aM,aM,aM] 30 fun t =>
 T.ao t [.slice h i j,.slice k l m,.slice n o p,.slice q r s] <|
 T.ae t (yU 64 88) fun u v w x y z A B C D E F =>
 dh 42 [.agg #[.slice u v w,.slice x y z,.slice A B C,.slice D E F]] fun G =>
 cond (G != 0)
 (T.ao d [vI 31,vI f,ct] <|
 T.ae d [.int .i64,.int .i64,.string] fun H I J =>
 bI #[.pointer none,.agg #[vI H,vI I,.string J]])
 (T.again 0 [.pointer e,bo f]))
 (bR (Instr.makeMap 96 none) false [(false,[.map 0 0])] fun g =>
 bR (Instr.makeMap 96 none) false [(false,[.map 0 0])] fun h =>
 bR (Instr.makeMap 97 none) false [(false,[.map 0 0])] fun i =>
 T.new [aM,aM,.map g,.map h,.map i,aM,vI 0] 99 fun j =>
 bq 43 [.pointer (some j),.slice a b c] true [] <| bq 44 [.pointer (some j),.slice a b c] true [(true,[.int .i64,.int .i64,.string]),cj] fun k l m n =>
 T.new [vI 0,vI 0,ct] 37 fun o =>
 T.ao o [vI k,vI l,.string m] <|
 cond n
 (T.ae o [.int .i64,.int .i64,.string] fun p q r =>
 T.az [(o,[vI p,vI q,.string r])] <|
 T.ao d [vI p,vI q,.string r] <|
 T.ae d [.int .i64,.int .i64,.string] fun s t u =>
 bI #[.pointer none,.agg #[vI s,vI t,.string u]])
 (T.loop [(false,[.pointer 0]),eb,eb,aK] [.pointer e,aM,aM,vI 0] fun p q r s t u v w =>
 bC w b
 (aT w b a fun x =>
 T.ae (x.add (ay w 4)) (yU 64 88) fun y z A B C D E F G H I J =>
 T.new [aM,aM,aM,aM] 30 fun K =>
 T.ao K [.slice y z A,.slice B C D,.slice E F G,.slice H I J] <|
 T.new [aM,aM,aM,aM] 30 fun L =>
 T.ae K [.slice 64] fun M N O =>
 bq 45 [.pointer (some j),vI w,.slice M N O] true [(false,[.slice 64]),(false,[.string]),cj] fun P Q R S U =>
 T.ao L [.slice P Q R] <|
 cond (!U)
 (T.ao d [vI 23,vI w,.string S] <|
 T.ae d [.int .i64,.int .i64,.string] fun V W X =>
 bI #[.pointer none,.agg #[vI V,vI W,.string X]])
 (T.ae (K.add 1) [.slice 64] fun V W X =>
 bq 45 [.pointer (some j),vI w,.slice V W X] true [(false,[.slice 64]),(false,[.string]),cj] fun Y Z a0 a1 a2 =>
 T.ao (L.add 1) [.slice Y Z a0] <|
 cond (!a2)
 (T.ao d [vI 23,vI w,.string a1] <|
 T.ae d [.int .i64,.int .i64,.string] fun a3 a4 a5 =>
 bI #[.pointer none,.agg #[vI a3,vI a4,.string a5]])
 (T.ae (K.add 2) [.slice 88] fun a3 a4 a5 =>
 T.loop [(false,[.pointer 0]),eb,eb,aK] [.pointer p,.slice q r s,.slice t u v,vI 0] fun a6 a7 a8 a9 b0 b1 b2 b3 =>
 bC b3 a4
 (aT b3 a4 a3 fun b4 =>
 T.ae (b4.add (ay b3 3)) [.string,.slice 66,.int .u32] fun b5 b6 b7 b8 b9 =>
 T.new [ct,aM,ar 0] 88 fun c0 =>
 T.ao c0 [.string b5,.slice b6 b7 b8,ar b9] <|
 T.ae (c0.add 1) (yL 66) fun c1 c2 c3 c4 =>
 bq 46 [.pointer (some j),vI w,.agg #[.slice c1 c2 c3,ar c4]] true [(true,(yL 66)),(false,[.string]),cj] fun c5 c6 c7 c8 c9 d0 =>
 T.new [aM,ar 0] 60 fun d1 =>
 T.ao d1 [.slice c5 c6 c7,ar c8] <|
 cond (!d0)
 (T.ao d [vI 23,vI w,.string c9] <|
 T.ae d [.int .i64,.int .i64,.string] fun d2 d3 d4 =>
 bI #[.pointer none,.agg #[vI d2,vI d3,.string d4]])
 (T.ae c0 [.string] fun d2 =>
 T.ae d1 (yL 66) fun d3 d4 d5 d6 =>
 nU 47 [.pointer (some j),.agg #[vI w,.string d2]] fun d7 =>
 T.az [(d1,[.slice d3 d4 d5,ar d6]),(c0,[.string d2])] <|
 aR (Instr.buildSlice 27 1 #[(0,.agg #[.string d7,.slice d3 d4 d5,ar d6])]) fun d8 d9 e0 =>
 T.az [(d1,[.slice d3 d4 d5,ar d6]),(c0,[.string d2])] <|
 aR (Builtin.append_ #[27,27] 27 #[.slice a7 a8 a9,.slice d8 d9 e0]) fun e1 e2 e3 =>
 T.az [(d1,[.slice d3 d4 d5,ar d6]),(c0,[.string d2])] <|
 T.ae c0 [.string] fun e4 =>
 aR (Instr.buildSlice 103 1 #[(0,.agg #[vI w,.string e4])]) fun e5 e6 e7 =>
 aR (Builtin.append_ #[103,103] 103 #[.slice b0 b1 b2,.slice e5 e6 e7]) fun e8 e9 f0 =>
 T.again 2 [.pointer a6,.slice e1 e2 e3,.slice e8 e9 f0,bo b3]))
 (T.ae j [.slice 30] fun b4 b5 b6 =>
 T.ae L (yU 64 88) fun b7 b8 b9 c0 c1 c2 c3 c4 c5 c6 c7 c8 =>
 aR (Instr.buildSlice 22 1 #[(0,.agg #[.slice b7 b8 b9,.slice c0 c1 c2,.slice c3 c4 c5,.slice c6 c7 c8])]) fun c9 d0 d1 =>
 T.az [(j,[.slice b4 b5 b6])] <|
 aR (Builtin.append_ #[22,22] 22 #[.slice b4 b5 b6,.slice c9 d0 d1]) fun d2 d3 d4 =>
 T.az [(L,[.slice b7 b8 b9,.slice c0 c1 c2,.slice c3 c4 c5,.slice c6 c7 c8])] <|
 T.ao j [.slice d2 d3 d4] <|
 T.ae (j.add 6) [.int .i64] fun d5 =>
 T.ae K (yU 64 88) fun d6 d7 d8 d9 e0 e1 e2 e3 e4 e5 e6 e7 =>
 dh 48 [.agg #[.slice d6 d7 d8,.slice d9 e0 e1,.slice e2 e3 e4,.slice e5 e6 e7]] fun e8 =>
 T.az [((j.add 6),[vI d5])] <|
 T.ao (j.add 6) [vI (bf (d5+e8))] <|
 T.again 1 [.pointer a6,.slice a7 a8 a9,.slice b0 b1 b2,bo w]))))
 (bq 49 [.slice q r s] true [(false,[.slice 88]),aK,aK] fun x y z A B =>
 cond (B != 0)
 (aT A u t fun C =>
 T.ae (C.add (ay A 2)) [.int .i64] fun D =>
 aT A u t fun E =>
 T.ae ((E.add (ay A 2)).add 1) [.string] fun F =>
 T.az [(((E.add (ay A 2)).add 1),[.string F]),((C.add (ay A 2)),[vI D])] <|
 T.ao d [vI B,vI D,.string F] <|
 T.ae d [.int .i64,.int .i64,.string] fun G H I =>
 bI #[.pointer none,.agg #[vI G,vI H,.string I]])
 (T.ae j [.slice 30] fun C D E =>
 T.loop [aK] [vI 0] fun F =>
 bC F D
 (aT F D C fun G =>
 T.ae (G.add (ay F 4)) (yU 64 88) fun H I J K L M N O P Q R S =>
 T.new [aM,aM,aM,aM] 30 fun U =>
 T.ao U [.slice H I J,.slice K L M,.slice N O P,.slice Q R S] <|
 T.ae U [.slice 64] fun V W X =>
 T.ae (U.add 1) [.slice 64] fun Y Z a0 =>
 aR (Instr.buildSlice 68 2 #[(0,.slice V W X),(1,.slice Y Z a0)]) fun a1 a2 a3 =>
 T.loop [aK] [vI 0] fun a4 =>
 bC a4 a2
 (aT a4 a2 a1 fun a5 =>
 T.ae (a5.add (ay a4 1)) [.slice 64] fun a6 a7 a8 =>
 T.loop [aK] [vI 0] fun a9 =>
 bC a9 a7
 (aT a9 a7 a6 fun b0 =>
 T.ae ((b0.add (ay a9 10)).add 7) (yL 66) fun b1 b2 b3 b4 =>
 bq 50 [.agg #[.slice b1 b2 b3,ar b4],.slice x y z] false [(true,(yL 66))] fun b5 b6 b7 b8 =>
 aT a9 a7 a6 fun b9 =>
 T.ao ((b9.add (ay a9 10)).add 7) [.slice b5 b6 b7,ar b8] <|
 T.again 4 [bo a9])
 (T.again 3 [bo a4]))
 (T.again 2 [bo F]))
 (T.ao d [vI 0,vI 0,ct] <|
 T.ae d [.int .i64,.int .i64,.string] fun G H I =>
 bI #[.pointer (some j),.agg #[vI G,vI H,.string I]])))))))
def yV (a:XC) (b c:Nat):bQ YC [] Tryz.f14 [.slice a b c]=xR a b c:=aw
end Go.Sx
