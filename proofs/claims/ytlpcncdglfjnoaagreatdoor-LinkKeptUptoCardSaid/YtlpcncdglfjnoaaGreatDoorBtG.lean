/- Trees of functions. No condition. -/
import Derived.Test.YtlpcncdglfjnoaaGreatDoorSxF
import Derived.Test.YtlpcncdglfjnoaaGreatDoorProg
import Derived.KernelRfl
set_option linter.all false
set_option maxRecDepth 100000
set_option maxHeartbeats 4000000
namespace Go.Sx
open Go.Proofs
def xy (a:Xac) (b c:Nat) (d:Xac) (e f:Nat) (g:Xac) (h i:Nat) (j:Xac) (k l:Nat):T :=
 T.new [.slice a b c,.slice d e f,.slice g h i,.slice j k l] 30 fun m =>
 T.af m (yU 64 88) fun n o p q r s t u v w x y =>
 dl 42 [.agg #[.slice n o p,.slice q r s,.slice t u v,.slice w x y]] fun z =>
 cond (z != 0)
 (T.ret (vI 0))
 (T.af m [.slice 64] fun A B C =>
 T.loop [aK,aK] [vI 0,vI 0] fun D E =>
 bn E B
 (aY E B A fun F =>
 T.af (F.add (ay E 10)) (yI 66) fun G H I J K L M N O P Q R =>
 T.new [vI 0,cm,vI 0,vI 0,vI 0,.int .i32 0,vI 0,aS,ax 0,vI 0] 64 fun S =>
 T.ar S [vI G,.string H,vI I,vI J,vI K,.int .i32 L,vI M,.slice N O P,ax Q,vI R] <|
 T.af S [.int .i64] fun U =>
 cond (U==2)
 (T.af (S.add 2) [.int .i64] fun V =>
 bd 82 [vI V] fun W =>
 cond W
 (T.again 0 [bj D,bj E])
 (T.again 0 [vI D,bj E]))
 (T.again 0 [vI D,bj E]))
 (T.ret (vI D)))
def zT (a:Xac) (b c:Nat) (d:Xac) (e f:Nat) (g:Xac) (h i:Nat) (j:Xac) (k l:Nat):bS Xaz [] Tryz.f48 [.agg #[.slice a b c,.slice d e f,.slice g h i,.slice j k l]]=xy a b c d e f g h i j k l:=aw
def jI (a:Xac) (b c:Nat):T :=
 bz 93 [.slice a b c] false [(false,[.slice 3])] fun d e f =>
 cond (decide ((e:Int)>0))
 (T.need (iW 0 e) <|
 T.aR d fun g =>
 T.af g [.int .i64] fun h =>
 T.aD [(g,[vI h])] <|
 bK #[aS,vI h,vI 24])
 (aT (Instr.buildSlice 27 0 #[]) fun g h i =>
 aT (Builtin.append_ #[27,27] 27 #[.slice g h i,.slice a b c]) fun j k l =>
 T.loop [aK] [vI 0] fun m =>
 bn m b
 (T.loop [aK] [vI 0] fun n =>
 bn n k
 (aY n k j fun o =>
 T.af ((o.add (ay n 3)).add 1) (yL 66) fun p q r s =>
 bz 94 [.agg #[.slice p q r,ax s],.slice a b c] false [(true,(yL 66))] fun t u v w =>
 aY n k j fun x =>
 T.ar ((x.add (ay n 3)).add 1) [.slice t u v,ax w] <|
 T.again 1 [bj n])
 (T.again 0 [bj m]))
 (bK #[.slice j k l,vI 0,vI 0]))
def oN (a:Xac) (b c:Nat):bS Xaz [] Tryz.f64 [.slice a b c]=jI a b c:=aw
def kI (a:Xac) (b c:Nat):T :=
 T.loop [dp,aK] [aS,vI 0] fun d e f g =>
 bn g b
 (bd 114 [.slice a b c,vI g,vI g] fun h =>
 cond h
 (aT (Instr.buildSlice 126 1 #[(0,vI g)]) fun i j k =>
 aT (Builtin.append_ #[126,126] 126 #[.slice d e f,.slice i j k]) fun l m n =>
 T.again 0 [.slice l m n,bj g])
 (T.again 0 [.slice d e f,bj g]))
 (T.ret (.slice d e f))
def qi (a:Xac) (b c:Nat):bS Xaz [] Tryz.f93 [.slice a b c]=kI a b c:=aw
def ly (a:Xac) (b c:Nat) (d:Int) (e:Xac) (f g:Nat):T :=
 T.new [.slice a b c,ax d] 60 fun h =>
 T.new [aS,ax 0] 60 fun i =>
 T.af (h.add 1) [.int .u32] fun j =>
 T.new [aS,ax 0] 60 fun k =>
 T.ar k [aS,ax j] <|
 T.loop [aK] [vI 0] fun l =>
 T.af h [.slice 66] fun m n o =>
 bn l n
 (T.af h [.slice 66] fun p q r =>
 aY l q p fun s =>
 T.af (s.add (ay l 2)) [.string] fun t =>
 dl 115 [.slice e f g,.string t] fun u =>
 T.af h [.slice 66] fun v w x =>
 aY l w v fun y =>
 T.af (y.add (ay l 2)) [.string,.int .u32] fun z A =>
 aT (Instr.buildSlice 57 1 #[(0,.agg #[.string z,ax A])]) fun B C D =>
 T.new [aS,ax 0] 60 fun E =>
 T.ar E [.slice B C D,ax 0] <|
 cond (decide (u>=0))
 (aY u f e fun F =>
 T.af ((F.add (ay u 3)).add 1) (yL 66) fun G H I J =>
 T.af h [.slice 66] fun K L M =>
 aY l L K fun N =>
 T.af ((N.add (ay l 2)).add 1) [.int .u32] fun O =>
 bz 116 [.agg #[.slice G H I,ax J],ax O] false [(true,(yL 66))] fun P Q R S =>
 T.aD [(h,[.slice K L M])] <|
 T.ar E [.slice P Q R,ax S] <|
 T.af k (yL 66) fun U V W X =>
 T.af E (yL 66) fun Y Z a0 a1 =>
 bz 92 [.agg #[.slice U V W,ax X],.agg #[.slice Y Z a0,ax a1]] false [(true,(yL 66))] fun a2 a3 a4 a5 =>
 T.ar k [.slice a2 a3 a4,ax a5] <|
 T.again 0 [bj l])
 (T.af k (yL 66) fun F G H I =>
 T.af E (yL 66) fun J K L M =>
 bz 92 [.agg #[.slice F G H,ax I],.agg #[.slice J K L,ax M]] false [(true,(yL 66))] fun N O P Q =>
 T.ar k [.slice N O P,ax Q] <|
 T.again 0 [bj l]))
 (T.af k (yL 66) fun p q r s =>
 T.ar i [.slice p q r,ax s] <|
 T.af i (yL 66) fun t u v w =>
 T.ret (.agg #[.slice t u v,ax w]))
def qZ (a:Xac) (b c:Nat) (d:Int) (e:Xac) (f g:Nat):bS Xaz [] Tryz.f94 [.agg #[.slice a b c,.int .u32 d],.slice e f g]=ly a b c d e f g:=aw
def lF (a:Xac) (b c:Nat) (d e:Int):T :=
 aT (Instr.makeSlice 204 (vI (b:Int)) (vI (b:Int))) fun f g h =>
 aT (Instr.buildSlice 126 1 #[(0,vI d)]) fun i j k =>
 T.loop [cr,dp] [.bool false,.slice i j k] fun l m n o =>
 cond (decide ((n:Int)>0))
 (T.need ((0<=(bC ((n:Int)-1)))/\((bC ((n:Int)-1))<(n:Int))) <|
 T.aR m fun p =>
 T.af (p.add ((Int.toNat (bC ((n:Int)-1)))*1)) [.int .i64] fun q =>
 T.need (((0:Int)<=0)/\((0<=(bC ((n:Int)-1)))/\((bC ((n:Int)-1))<=(o:Int)))) <|
 T.loop [cr,dp,aK] [.bool l,.slice (if (o=0) then m else (Option.map (fun r=>Addr.add r 0) m)) ((Int.toNat (bC ((n:Int)-1)))-0) (o-0),vI 0] fun r s t u v =>
 aY q b a fun w =>
 T.af ((w.add (ay q 3)).add 1) [.slice 66] fun x y z =>
 bn v y
 (aY q b a fun A =>
 T.af ((A.add (ay q 3)).add 1) [.slice 66] fun B C D =>
 aY v C B fun E =>
 T.af (E.add (ay v 2)) [.string] fun F =>
 dl 115 [.slice a b c,.string F] fun G =>
 cond (G==e)
 dZ
 (cond (decide (G>=0))
 (aY G g f fun H =>
 T.af (H.add (ay G 1)) [.bool] fun I =>
 cond (!I)
 (aY G g f fun J =>
 T.ar (J.add (ay G 1)) [.bool true] <|
 aT (Instr.buildSlice 126 1 #[(0,vI G)]) fun K L M =>
 aT (Builtin.append_ #[126,126] 126 #[.slice s t u,.slice K L M]) fun N O P =>
 T.again 1 [.bool r,.slice N O P,bj v])
 (T.again 1 [.bool r,.slice s t u,bj v]))
 (T.again 1 [.bool r,.slice s t u,bj v])))
 (T.again 0 [.bool r,.slice s t u]))
 bH
def qP (a:Xac) (b c:Nat) (d e:Int):bS Xaz [] Tryz.f114 [.slice a b c,vI d,vI e]=lF a b c d e:=aw
def kN (a:Xac) (b c:Nat) (d:Xaa):T :=
 T.loop [aK,aK] [vI 0,vI 0] fun e f =>
 bn f b
 (aY f b a fun g =>
 T.af (g.add (ay f 3)) [.string] fun h =>
 cond ((ByteArray.toList h)==(ByteArray.toList d))
 (T.ret (vI f))
 (T.again 0 [vI e,bj f]))
 (T.ret (vI (-1)))
def o7 (a:Xac) (b c:Nat) (d:Xaa):bS Xaz [] Tryz.f115 [.slice a b c,.string d]=kN a b c d:=aw
def kH (a:Xac) (b c:Nat):T :=
 T.new [vI 0,vI 0,cm] 54 fun d =>
 bz 60 [.slice a b c] false [(true,[.int .i64,.int .i64,.string])] fun e f g =>
 T.new [vI 0,vI 0,cm] 54 fun h =>
 T.ar h [vI e,vI f,.string g] <|
 T.af h [.int .i64] fun i =>
 cond (i != 0)
 (T.af h [.int .i64,.int .i64,.string] fun j k l =>
 T.aD [(h,[vI j,vI k,.string l])] <|
 T.ar d [vI j,vI k,.string l] <|
 T.af d [.int .i64,.int .i64,.string] fun m n o =>
 bK #[.pointer none,.agg #[vI m,vI n,.string o]])
 (T.new [.slice a b c,aS,aS,aS] 70 fun j =>
 T.loop [aK] [vI 0] fun k =>
 bn k b
 (aY k b a fun l =>
 T.af (l.add (ay k 4)) [.slice 64] fun m n o =>
 bz 61 [.pointer (some j),vI k,vI 0,.slice m n o] true [] <| aY k b a fun p =>
 T.af ((p.add (ay k 4)).add 1) [.slice 64] fun q r s =>
 bz 61 [.pointer (some j),vI k,vI 1,.slice q r s] true [] <| T.again 0 [bj k])
 (T.loop [dp,dp,aK] [aS,aS,vI 0] fun l m n o p q r =>
 bn r b
 (T.loop [dp,dp,aK] [.slice l m n,.slice o p q,vI 0] fun s t u v w x y =>
 aY r b a fun z =>
 T.af ((z.add (ay r 4)).add 2) [.slice 88] fun A B C =>
 bn y B
 (aY r b a fun D =>
 T.af ((D.add (ay r 4)).add 2) [.slice 88] fun E F G =>
 aY y F E fun H =>
 T.af (H.add (ay y 3)) [.string,.slice 66,.int .u32] fun I J K L M =>
 T.new [cm,aS,ax 0] 88 fun N =>
 T.ar N [.string I,.slice J K L,ax M] <|
 T.af N [.string] fun O =>
 T.af (N.add 1) (yL 66) fun P Q R S =>
 jE 62 [.pointer (some j),vI r,.string O] fun U =>
 T.aD [((N.add 1),[.slice P Q R,ax S])] <|
 bz 63 [.pointer (some j),vI r,.agg #[.slice P Q R,ax S]] false [(true,(yL 66))] fun V W X Y =>
 T.aD [(N,[.string O])] <|
 aT (Instr.buildSlice 27 1 #[(0,.agg #[.string U,.slice V W X,ax Y])]) fun Z a0 a1 =>
 T.aD [((N.add 1),[.slice P Q R,ax S]),(N,[.string O])] <|
 aT (Builtin.append_ #[27,27] 27 #[.slice s t u,.slice Z a0 a1]) fun a2 a3 a4 =>
 T.aD [((N.add 1),[.slice P Q R,ax S]),(N,[.string O])] <|
 aT (Instr.buildSlice 126 1 #[(0,vI y)]) fun a5 a6 a7 =>
 aT (Builtin.append_ #[126,126] 126 #[.slice v w x,.slice a5 a6 a7]) fun a8 a9 b0 =>
 T.again 2 [.slice a2 a3 a4,.slice a8 a9 b0,bj y])
 (T.again 1 [.slice s t u,.slice v w x,bj r]))
 (bz 64 [.slice l m n] true [(false,[.slice 88]),aK,aK] fun s t u v w =>
 cond (w != 0)
 (T.loop [aK,aK] [vI 0,vI v] fun x y =>
 aY x b a fun z =>
 T.af ((z.add (ay x 4)).add 2) [.slice 88] fun A B C =>
 cond (decide (y>=(B:Int)))
 (aY x b a fun D =>
 T.af ((D.add (ay x 4)).add 2) [.slice 88] fun E F G =>
 T.again 2 [bj x,vI (bC (y-(F:Int)))])
 (aY x b a fun D =>
 T.af ((D.add (ay x 4)).add 2) [.slice 88] fun E F G =>
 aY v p o fun H =>
 T.af (H.add (ay v 1)) [.int .i64] fun I =>
 aY I F E fun J =>
 T.af (J.add (ay I 3)) [.string] fun K =>
 T.aD [((J.add (ay I 3)),[.string K]),((H.add (ay v 1)),[vI I]),(((D.add (ay x 4)).add 2),[.slice E F G])] <|
 T.ar d [vI 24,vI x,.string K] <|
 T.af d [.int .i64,.int .i64,.string] fun L M N =>
 bK #[.pointer none,.agg #[vI L,vI M,.string N]]))
 (T.loop [aK] [vI 0] fun x =>
 bn x b
 (T.af (j.add 2) [.slice 26] fun y z A =>
 aY x b a fun B =>
 T.af (B.add (ay x 4)) [.slice 64] fun C D E =>
 bz 65 [.pointer (some j),vI x,.slice C D E,.slice s t u] false [(false,[.slice 64])] fun F G H =>
 T.aD [((j.add 2),[.slice y z A])] <|
 aT (Instr.buildSlice 68 1 #[(0,.slice F G H)]) fun I J K =>
 T.aD [((B.add (ay x 4)),[.slice C D E]),((j.add 2),[.slice y z A])] <|
 aT (Builtin.append_ #[68,68] 68 #[.slice y z A,.slice I J K]) fun L M N =>
 T.aD [((B.add (ay x 4)),[.slice C D E])] <|
 T.ar (j.add 2) [.slice L M N] <|
 T.af (j.add 3) [.slice 26] fun O P Q =>
 aY x b a fun R =>
 T.af ((R.add (ay x 4)).add 1) [.slice 64] fun S U V =>
 bz 65 [.pointer (some j),vI x,.slice S U V,.slice s t u] false [(false,[.slice 64])] fun W X Y =>
 T.aD [((j.add 3),[.slice O P Q])] <|
 aT (Instr.buildSlice 68 1 #[(0,.slice W X Y)]) fun Z a0 a1 =>
 T.aD [(((R.add (ay x 4)).add 1),[.slice S U V]),((j.add 3),[.slice O P Q])] <|
 aT (Builtin.append_ #[68,68] 68 #[.slice O P Q,.slice Z a0 a1]) fun a2 a3 a4 =>
 T.aD [(((R.add (ay x 4)).add 1),[.slice S U V])] <|
 T.ar (j.add 3) [.slice a2 a3 a4] <|
 T.again 2 [bj x])
 (T.ar d [vI 0,vI 0,cm] <|
 T.af d [.int .i64,.int .i64,.string] fun y z A =>
 bK #[.pointer (some j),.agg #[vI y,vI z,.string A]])))))
def oS (a:Xac) (b c:Nat):bS Xaz [] Tryz.f26 [.slice a b c]=kH a b c:=aw
def jb (a:Xac) (b c:Nat):T :=
 T.new [vI 0,vI 0,cm] 54 fun d =>
 cond ((b:Int)==0)
 (T.ar d [vI 25,vI 0,cm] <|
 T.af d [.int .i64,.int .i64,.string] fun e f g =>
 T.ret (.agg #[vI e,vI f,.string g]))
 (cond (decide ((b:Int)>64))
 (T.ar d [vI 4,vI 0,cm] <|
 T.af d [.int .i64,.int .i64,.string] fun e f g =>
 T.ret (.agg #[vI e,vI f,.string g]))
 (T.loop [aK] [vI 0] fun e =>
 bn e b
 (aY e b a fun f =>
 T.af (f.add (ay e 4)) (yU 64 88) fun g h i j k l m n o p q r =>
 dl 10 [.agg #[.slice g h i,.slice j k l,.slice m n o,.slice p q r]] fun s =>
 cond (s != 0)
 (T.ar d [vI 31,vI e,cm] <|
 T.af d [.int .i64,.int .i64,.string] fun t u v =>
 T.ret (.agg #[vI t,vI u,.string v]))
 (T.again 0 [bj e]))
 (T.loop [aK] [vI 0] fun f =>
 bn f b
 (T.loop [aK] [vI 0] fun g =>
 aY f b a fun h =>
 T.af ((h.add (ay f 4)).add 3) [.slice 9] fun i j k =>
 bn g j
 (T.loop [aK] [vI 0] fun l =>
 cond (decide (l<f))
 (aY l b a fun m =>
 T.af ((m.add (ay l 4)).add 3) [.slice 9] fun n o p =>
 aY f b a fun q =>
 T.af ((q.add (ay f 4)).add 3) [.slice 9] fun r s t =>
 aY g s r fun u =>
 T.af (u.add (ay g 1)) [.string] fun v =>
 bd 38 [.slice n o p,.string v] fun w =>
 T.aD [(((q.add (ay f 4)).add 3),[.slice r s t])] <|
 cond w
 (aY f b a fun x =>
 T.af ((x.add (ay f 4)).add 3) [.slice 9] fun y z A =>
 aY g z y fun B =>
 T.af (B.add (ay g 1)) [.string] fun C =>
 T.ar d [vI 22,vI f,.string C] <|
 T.af d [.int .i64,.int .i64,.string] fun D E F =>
 T.ret (.agg #[vI D,vI E,.string F]))
 (T.again 3 [bj l]))
 (T.again 2 [bj g]))
 (T.again 1 [bj f]))
 (T.loop [aK] [vI 0] fun g =>
 bn g b
 (jE 90 [.slice a b c,vI g] fun h =>
 cond (!((ByteArray.toList h)==[]))
 (T.ar d [vI 23,vI g,.string h] <|
 T.af d [.int .i64,.int .i64,.string] fun i j k =>
 T.ret (.agg #[vI i,vI j,.string k]))
 (T.again 2 [bj g]))
 (T.ar d [vI 0,vI 0,cm] <|
 T.af d [.int .i64,.int .i64,.string] fun h i j =>
 T.ret (.agg #[vI h,vI i,.string j]))))))
def mQ (a:Xac) (b c:Nat):bS Xaz [] Tryz.f60 [.slice a b c]=jb a b c:=aw
def fC (a:Xac) (b c:Int) (d:Xac) (e f:Nat):T :=
 T.loop [aK] [vI 0] fun g =>
 bn g e
 (aY g e d fun h =>
 T.af (h.add (ay g 10)) [.int .i64] fun i =>
 cond (i==1)
 (T.aR a fun j =>
 T.af (j.add 1) [.slice 82] fun k l m =>
 aY g e d fun n =>
 T.af ((n.add (ay g 10)).add 1) [.string] fun o =>
 aT (Instr.buildSlice 67 1 #[(0,.agg #[vI b,vI c,vI g,.string o])]) fun p q r =>
 T.aD [(((n.add (ay g 10)).add 1),[.string o]),((j.add 1),[.slice k l m])] <|
 aT (Builtin.append_ #[67,67] 67 #[.slice k l m,.slice p q r]) fun s t u =>
 T.aD [(((n.add (ay g 10)).add 1),[.string o])] <|
 T.aR a fun v =>
 T.ar (v.add 1) [.slice s t u] <|
 T.again 0 [bj g])
 (T.again 0 [bj g]))
 (bK #[])
def jh (a:Xac) (b c:Int) (d:Xac) (e f:Nat):bS Xaz [] Tryz.f61 [.pointer a,vI b,vI c,.slice d e f]=fC a b c d e f:=aw
def fH (a:Xac) (b:Int) (c:Xaa):T :=
 T.aR a fun d =>
 T.af d [.slice 30] fun e f g =>
 dl 69 [.slice e f g,vI b,.string c] fun h =>
 T.loop [(false,[.string]),aK] [cm,vI 0] fun i j =>
 T.aR a fun k =>
 T.af (k.add 1) [.slice 82] fun l m n =>
 bn j m
 (T.aR a fun o =>
 T.af (o.add 1) [.slice 82] fun p q r =>
 aY j q p fun s =>
 T.af (s.add (ay j 4)) [.int .i64] fun t =>
 cond (t==h)
 (T.aR a fun u =>
 T.af (u.add 1) [.slice 82] fun v w x =>
 aY j w v fun y =>
 T.af ((y.add (ay j 4)).add 3) [.string] fun z =>
 cond ((ByteArray.toList z)==(ByteArray.toList c))
 (jE 91 [vI j] fun A =>
 T.need ((((1+A.size):Nat):Int)<=9223372036854775807) <|
 T.ret (.string (⟨#[76]⟩++A)))
 (T.again 0 [.string i,bj j]))
 (T.again 0 [.string i,bj j]))
 (jE 91 [vI h] fun o =>
 T.need ((((1+o.size):Nat):Int)<=9223372036854775807) <|
 T.need (((((ByteArray.size (⟨#[69]⟩++o))+1):Nat):Int)<=9223372036854775807) <|
 T.need (((((ByteArray.size ((⟨#[69]⟩++o)++⟨#[95]⟩))+c.size):Nat):Int)<=9223372036854775807) <|
 T.ret (.string (((⟨#[69]⟩++o)++⟨#[95]⟩)++c)))
def jz (a:Xac) (b:Int) (c:Xaa):bS Xaz [] Tryz.f62 [.pointer a,vI b,.string c]=fH a b c:=aw
def fz (a:Xac) (b:Int) (c:Xac) (d e:Nat) (f:Int):T :=
 T.new [.slice c d e,ax f] 60 fun g =>
 T.new [aS,ax 0] 60 fun h =>
 T.af (g.add 1) [.int .u32] fun i =>
 T.new [aS,ax 0] 60 fun j =>
 T.ar j [aS,ax i] <|
 T.loop [aK] [vI 0] fun k =>
 T.af g [.slice 66] fun l m n =>
 bn k m
 (T.af j (yL 66) fun o p q r =>
 T.af g [.slice 66] fun s t u =>
 aY k t s fun v =>
 T.af (v.add (ay k 2)) [.string] fun w =>
 T.af g [.slice 66] fun x y z =>
 aY k y x fun A =>
 T.af ((A.add (ay k 2)).add 1) [.int .u32] fun B =>
 jE 62 [.pointer a,vI b,.string w] fun C =>
 T.aD [(((A.add (ay k 2)).add 1),[ax B]),(g,[.slice x y z]),(g,[.slice s t u]),(j,[.slice o p q,ax r])] <|
 aT (Instr.buildSlice 57 1 #[(0,.agg #[.string C,ax B])]) fun D E F =>
 T.aD [(((A.add (ay k 2)).add 1),[ax B]),(g,[.slice x y z]),((v.add (ay k 2)),[.string w]),(g,[.slice s t u]),(j,[.slice o p q,ax r])] <|
 bz 92 [.agg #[.slice o p q,ax r],.agg #[.slice D E F,ax 0]] false [(true,(yL 66))] fun G H I J =>
 T.aD [(((A.add (ay k 2)).add 1),[ax B]),(g,[.slice x y z]),((v.add (ay k 2)),[.string w]),(g,[.slice s t u])] <|
 T.ar j [.slice G H I,ax J] <|
 T.again 0 [bj k])
 (T.af j (yL 66) fun o p q r =>
 T.ar h [.slice o p q,ax r] <|
 T.af h (yL 66) fun s t u v =>
 T.ret (.agg #[.slice s t u,ax v]))
def jg (a:Xac) (b:Int) (c:Xac) (d e:Nat) (f:Int):bS Xaz [] Tryz.f63 [.pointer a,vI b,.agg #[.slice c d e,.int .u32 f]]=fz a b c d e f:=aw
def fl (a:Xac) (b:Int) (c:Xac) (d e:Nat) (f:Xac) (g h:Nat):T :=
 aT (Instr.buildSlice 26 0 #[]) fun i j k =>
 aT (Builtin.append_ #[26,26] 26 #[.slice i j k,.slice c d e]) fun l m n =>
 T.loop [aK] [vI 0] fun o =>
 bn o m
 (aY o m l fun p =>
 T.af ((p.add (ay o 10)).add 7) (yL 66) fun q r s t =>
 bz 63 [.pointer a,vI b,.agg #[.slice q r s,ax t]] false [(true,(yL 66))] fun u v w x =>
 bz 94 [.agg #[.slice u v w,ax x],.slice f g h] false [(true,(yL 66))] fun y z A B =>
 aY o m l fun C =>
 T.ar ((C.add (ay o 10)).add 7) [.slice y z A,ax B] <|
 T.again 0 [bj o])
 (T.ret (.slice l m n))
def iN (a:Xac) (b:Int) (c:Xac) (d e:Nat) (f:Xac) (g h:Nat):bS Xaz [] Tryz.f65 [.pointer a,vI b,.slice c d e,.slice f g h]=fl a b c d e f g h:=aw
def jP (a:Xac) (b c:Nat) (d:Int) (e:Xaa):T :=
 aY d b a fun f =>
 T.af (f.add (ay d 4)) (yU 64 88) fun g h i j k l m n o p q r =>
 bz 11 [.agg #[.slice g h i,.slice j k l,.slice m n o,.slice p q r]] false [(false,[.slice 9])] fun s t u =>
 bd 38 [.slice s t u,.string e] fun v =>
 cond v
 (T.ret (vI d))
 (T.loop [aK,aK] [vI 0,vI 0] fun w x =>
 bn x b
 (aY x b a fun y =>
 T.af ((y.add (ay x 4)).add 3) [.slice 9] fun z A B =>
 bd 38 [.slice z A B,.string e] fun C =>
 cond C
 (T.ret (vI x))
 (T.again 0 [vI w,bj x]))
 (T.ret (vI (-1))))
def oA (a:Xac) (b c:Nat) (d:Int) (e:Xaa):bS Xaz [] Tryz.f69 [.slice a b c,vI d,.string e]=jP a b c d e:=aw
def hY (a:Xac) (b c:Nat) (d:Int):T :=
 aY d b a fun e =>
 T.af (e.add (ay d 4)) (yU 64 88) fun f g h i j k l m n o p q =>
 T.new [aS,aS,aS,aS] 30 fun r =>
 T.ar r [.slice f g h,.slice i j k,.slice l m n,.slice o p q] <|
 T.af r [.slice 64] fun s t u =>
 T.af (r.add 1) [.slice 64] fun v w x =>
 aT (Instr.buildSlice 26 0 #[]) fun y z A =>
 T.aD [((r.add 1),[.slice v w x]),(r,[.slice s t u])] <|
 aT (Builtin.append_ #[26,26] 26 #[.slice y z A,.slice s t u]) fun B C D =>
 T.aD [((r.add 1),[.slice v w x])] <|
 aT (Builtin.append_ #[26,26] 26 #[.slice B C D,.slice v w x]) fun E F G =>
 T.aD [(r,[.slice s t u])] <|
 T.loop [(false,[.string]),aK] [cm,vI 0] fun H I =>
 bn I F
 (aY I F E fun J =>
 T.af ((J.add (ay I 10)).add 7) (yL 66) fun K L M N =>
 jE 113 [.slice a b c,vI d,.agg #[.slice K L M,ax N]] fun O =>
 cond (!((ByteArray.toList O)==[]))
 (T.ret (.string O))
 (T.again 0 [.string H,bj I]))
 (T.loop [(false,[.string]),aK] [.string H,vI 0] fun J K =>
 T.af (r.add 2) [.slice 88] fun L M N =>
 bn K M
 (T.af (r.add 2) [.slice 88] fun O P Q =>
 aY K P O fun R =>
 T.af ((R.add (ay K 3)).add 1) (yL 66) fun S U V W =>
 jE 113 [.slice a b c,vI d,.agg #[.slice S U V,ax W]] fun X =>
 cond (!((ByteArray.toList X)==[]))
 (T.ret (.string X))
 (T.again 1 [.string J,bj K]))
 (T.ret (cm)))
def kS (a:Xac) (b c:Nat) (d:Int):bS Xaz [] Tryz.f90 [.slice a b c,vI d]=hY a b c d:=aw
def jq (a:Int):T :=
 T.loop [aK,(false,[.string])] [vI a,cm] fun b c =>
 cond (decide (b>0))
 (T.need ((10:Int)≠0) <|
 aT (Instr.buildSlice 182 1 #[(0,.int .u8 (IntKind.wrap .u8 (bC (48+(Int.tmod b 10)))))]) fun d e f =>
 bX (convert 182 9 (.slice d e f)) false [(false,[.string])] fun g =>
 T.need ((((g.size+c.size):Nat):Int)<=9223372036854775807) <|
 T.need ((10:Int)≠0) <|
 T.again 0 [vI (bC (Int.tdiv b 10)),.string (g++c)])
 (cond ((ByteArray.toList c)==[])
 (T.need ((10:Int)≠0) <|
 aT (Instr.buildSlice 182 1 #[(0,.int .u8 (IntKind.wrap .u8 (bC (48+(Int.tmod b 10)))))]) fun d e f =>
 bX (convert 182 9 (.slice d e f)) false [(false,[.string])] fun g =>
 T.need ((((g.size+c.size):Nat):Int)<=9223372036854775807) <|
 T.need ((10:Int)≠0) <|
 T.again 0 [vI (bC (Int.tdiv b 10)),.string (g++c)])
 (T.ret (.string c)))
def nO (a:Int):bS Xaz [] Tryz.f91 [vI a]=jq a:=aw
def jL (a:Xac) (b c:Nat) (d:Int) (e:Xac) (f g:Nat) (h:Int):T :=
 T.new [.slice e f g,ax h] 60 fun i =>
 T.loop [(false,[.string]),aK] [cm,vI 0] fun j k =>
 T.af i [.slice 66] fun l m n =>
 bn k m
 (T.af i [.slice 66] fun o p q =>
 aY k p o fun r =>
 T.af (r.add (ay k 2)) [.string] fun s =>
 dl 69 [.slice a b c,vI d,.string s] fun t =>
 cond (decide (t<0))
 (T.af i [.slice 66] fun u v w =>
 aY k v u fun x =>
 T.af (x.add (ay k 2)) [.string] fun y =>
 T.ret (.string y))
 (T.again 0 [.string j,bj k]))
 (T.ret (cm))
def oC (a:Xac) (b c:Nat) (d:Int) (e:Xac) (f g:Nat) (h:Int):bS Xaz [] Tryz.f113 [.slice a b c,vI d,.agg #[.slice e f g,.int .u32 h]]=jL a b c d e f g h:=aw
end Go.Sx
