/- Trees of functions. No condition. -/
import Derived.Test.YtmdncdaladplkaaGreatDoorSxF
import Derived.Test.YtmdncdaladplkaaGreatDoorProg
import Derived.KernelRfl
set_option linter.all false
set_option maxRecDepth 100000
set_option maxHeartbeats 4000000
namespace Go.Sx
open Go.Proofs
def xj (a:Xac) (b c:Nat) (d:Xac) (e f:Nat) (g:Xac) (h i:Nat) (j:Xac) (k l:Nat):T :=
 T.new [.slice a b c,.slice d e f,.slice g h i,.slice j k l] 70 fun m =>
 T.af m (yU 55 116) fun n o p q r s t u v w x y =>
 cQ 30 [.agg #[.slice n o p,.slice q r s,.slice t u v,.slice w x y]] fun z =>
 cond (z != 0)
 (T.ret (vI 0))
 (T.af m [.slice 55] fun A B C =>
 T.loop [aQ,aQ] [vI 0,vI 0] fun D E =>
 bt E B
 (aY E B A fun F =>
 T.af (F.add (aI E 10)) (yI 64) fun G H I J K L M N O P Q R =>
 T.new [vI 0,cm,vI 0,vI 0,vI 0,.int .i32 0,vI 0,bg,aF 0,vI 0] 55 fun S =>
 T.aD S [vI G,.string H,vI I,vI J,vI K,.int .i32 L,vI M,.slice N O P,aF Q,vI R] <|
 T.af S [.int .i64] fun U =>
 cond (U==2)
 (T.af (S.add 2) [.int .i64] fun V =>
 aZ 60 [vI V] fun W =>
 cond W
 (T.again 0 [bh D,bh E])
 (T.again 0 [vI D,bh E]))
 (T.again 0 [vI D,bh E]))
 (T.ret (vI D)))
def Aa (a:Xac) (b c:Nat) (d:Xac) (e f:Nat) (g:Xac) (h i:Nat) (j:Xac) (k l:Nat):bZ Xaz [] Tryz.f36 [.agg #[.slice a b c,.slice d e f,.slice g h i,.slice j k l]]=xj a b c d e f g h i j k l:=ax
def jC (a:Xac) (b c:Nat):T :=
 bP 75 [.slice a b c] false [(false,[.slice 3])] fun d e f =>
 cond (decide ((e:Int)>0))
 (T.need (lh 0 e) <|
 T.bf d fun g =>
 T.af g [.int .i64] fun h =>
 T.bi [(g,[vI h])] <|
 bG #[bg,vI h,vI 24])
 (bn (Instr.buildSlice 67 0 #[]) fun g h i =>
 bn (Builtin.append_ #[67,67] 67 #[.slice g h i,.slice a b c]) fun j k l =>
 T.loop [aQ] [vI 0] fun m =>
 bt m b
 (T.loop [aQ] [vI 0] fun n =>
 bt n k
 (aY n k j fun o =>
 T.af ((o.add (aI n 3)).add 1) (yL 64) fun p q r s =>
 bP 76 [.agg #[.slice p q r,aF s],.slice a b c] false [(true,(yL 64))] fun t u v w =>
 aY n k j fun x =>
 T.aD ((x.add (aI n 3)).add 1) [.slice t u v,aF w] <|
 T.again 1 [bh n])
 (T.again 0 [bh m]))
 (bG #[.slice j k l,vI 0,vI 0]))
def ot (a:Xac) (b c:Nat):bZ Xaz [] Tryz.f47 [.slice a b c]=jC a b c:=ax
def kF (a:Xac) (b c:Nat):T :=
 T.loop [cY,aQ] [bg,vI 0] fun d e f g =>
 bt g b
 (aZ 100 [.slice a b c,vI g,vI g] fun h =>
 cond h
 (bn (Instr.buildSlice 135 1 #[(0,vI g)]) fun i j k =>
 bn (Builtin.append_ #[135,135] 135 #[.slice d e f,.slice i j k]) fun l m n =>
 T.again 0 [.slice l m n,bh g])
 (T.again 0 [.slice d e f,bh g]))
 (T.ret (.slice d e f))
def pM (a:Xac) (b c:Nat):bZ Xaz [] Tryz.f75 [.slice a b c]=kF a b c:=ax
def lu (a:Xac) (b c:Nat) (d:Int) (e:Xac) (f g:Nat):T :=
 T.new [.slice a b c,aF d] 53 fun h =>
 T.new [bg,aF 0] 53 fun i =>
 T.af (h.add 1) [.int .u32] fun j =>
 T.new [bg,aF 0] 53 fun k =>
 T.aD k [bg,aF j] <|
 T.loop [aQ] [vI 0] fun l =>
 T.af h [.slice 64] fun m n o =>
 bt l n
 (T.af h [.slice 64] fun p q r =>
 aY l q p fun s =>
 T.af (s.add (aI l 2)) [.string] fun t =>
 cQ 101 [.slice e f g,.string t] fun u =>
 T.af h [.slice 64] fun v w x =>
 aY l w v fun y =>
 T.af (y.add (aI l 2)) [.string,.int .u32] fun z A =>
 bn (Instr.buildSlice 50 1 #[(0,.agg #[.string z,aF A])]) fun B C D =>
 T.new [bg,aF 0] 53 fun E =>
 T.aD E [.slice B C D,aF 0] <|
 cond (decide (u>=0))
 (aY u f e fun F =>
 T.af ((F.add (aI u 3)).add 1) (yL 64) fun G H I J =>
 T.af h [.slice 64] fun K L M =>
 aY l L K fun N =>
 T.af ((N.add (aI l 2)).add 1) [.int .u32] fun O =>
 bP 102 [.agg #[.slice G H I,aF J],aF O] false [(true,(yL 64))] fun P Q R S =>
 T.bi [(h,[.slice K L M])] <|
 T.aD E [.slice P Q R,aF S] <|
 T.af k (yL 64) fun U V W X =>
 T.af E (yL 64) fun Y Z a0 a1 =>
 bP 74 [.agg #[.slice U V W,aF X],.agg #[.slice Y Z a0,aF a1]] false [(true,(yL 64))] fun a2 a3 a4 a5 =>
 T.aD k [.slice a2 a3 a4,aF a5] <|
 T.again 0 [bh l])
 (T.af k (yL 64) fun F G H I =>
 T.af E (yL 64) fun J K L M =>
 bP 74 [.agg #[.slice F G H,aF I],.agg #[.slice J K L,aF M]] false [(true,(yL 64))] fun N O P Q =>
 T.aD k [.slice N O P,aF Q] <|
 T.again 0 [bh l]))
 (T.af k (yL 64) fun p q r s =>
 T.aD i [.slice p q r,aF s] <|
 T.af i (yL 64) fun t u v w =>
 T.ret (.agg #[.slice t u v,aF w]))
def qI (a:Xac) (b c:Nat) (d:Int) (e:Xac) (f g:Nat):bZ Xaz [] Tryz.f76 [.agg #[.slice a b c,.int .u32 d],.slice e f g]=lu a b c d e f g:=ax
def lB (a:Xac) (b c:Nat) (d e:Int):T :=
 bn (Instr.makeSlice 243 (vI (b:Int)) (vI (b:Int))) fun f g h =>
 bn (Instr.buildSlice 135 1 #[(0,vI d)]) fun i j k =>
 T.loop [cn,cY] [.bool false,.slice i j k] fun l m n o =>
 cond (decide ((n:Int)>0))
 (T.need ((0<=(bq ((n:Int)-1)))/\((bq ((n:Int)-1))<(n:Int))) <|
 T.bf m fun p =>
 T.af (p.add ((Int.toNat (bq ((n:Int)-1)))*1)) [.int .i64] fun q =>
 T.need (((0:Int)<=0)/\((0<=(bq ((n:Int)-1)))/\((bq ((n:Int)-1))<=(o:Int)))) <|
 T.loop [cn,cY,aQ] [.bool l,.slice (if (o=0) then m else (Option.map (fun r=>Addr.add r 0) m)) ((Int.toNat (bq ((n:Int)-1)))-0) (o-0),vI 0] fun r s t u v =>
 aY q b a fun w =>
 T.af ((w.add (aI q 3)).add 1) [.slice 64] fun x y z =>
 bt v y
 (aY q b a fun A =>
 T.af ((A.add (aI q 3)).add 1) [.slice 64] fun B C D =>
 aY v C B fun E =>
 T.af (E.add (aI v 2)) [.string] fun F =>
 cQ 101 [.slice a b c,.string F] fun G =>
 cond (G==e)
 ez
 (cond (decide (G>=0))
 (aY G g f fun H =>
 T.af (H.add (aI G 1)) [.bool] fun I =>
 cond (!I)
 (aY G g f fun J =>
 T.aD (J.add (aI G 1)) [.bool true] <|
 bn (Instr.buildSlice 135 1 #[(0,vI G)]) fun K L M =>
 bn (Builtin.append_ #[135,135] 135 #[.slice s t u,.slice K L M]) fun N O P =>
 T.again 1 [.bool r,.slice N O P,bh v])
 (T.again 1 [.bool r,.slice s t u,bh v]))
 (T.again 1 [.bool r,.slice s t u,bh v])))
 (T.again 0 [.bool r,.slice s t u]))
 bz
def qw (a:Xac) (b c:Nat) (d e:Int):bZ Xaz [] Tryz.f100 [.slice a b c,vI d,vI e]=lB a b c d e:=ax
def kL (a:Xac) (b c:Nat) (d:Xaa):T :=
 T.loop [aQ,aQ] [vI 0,vI 0] fun e f =>
 bt f b
 (aY f b a fun g =>
 T.af (g.add (aI f 3)) [.string] fun h =>
 cond ((ByteArray.toList h)==(ByteArray.toList d))
 (T.ret (vI f))
 (T.again 0 [vI e,bh f]))
 (T.ret (vI (-1)))
def oE (a:Xac) (b c:Nat) (d:Xaa):bZ Xaz [] Tryz.f101 [.slice a b c,.string d]=kL a b c d:=ax
def kE (a:Xac) (b c:Nat):T :=
 T.new [vI 0,vI 0,cm] 91 fun d =>
 bP 43 [.slice a b c] false [(true,[.int .i64,.int .i64,.string])] fun e f g =>
 T.new [vI 0,vI 0,cm] 91 fun h =>
 T.aD h [vI e,vI f,.string g] <|
 T.af h [.int .i64] fun i =>
 cond (i != 0)
 (T.af h [.int .i64,.int .i64,.string] fun j k l =>
 T.bi [(h,[vI j,vI k,.string l])] <|
 T.aD d [vI j,vI k,.string l] <|
 T.af d [.int .i64,.int .i64,.string] fun m n o =>
 bG #[.pointer none,.agg #[vI m,vI n,.string o]])
 (T.new [.slice a b c,bg,bg,bg] 45 fun j =>
 T.loop [aQ] [vI 0] fun k =>
 bt k b
 (aY k b a fun l =>
 T.af (l.add (aI k 4)) [.slice 55] fun m n o =>
 bP 44 [.pointer (some j),vI k,vI 0,.slice m n o] true [] <| aY k b a fun p =>
 T.af ((p.add (aI k 4)).add 1) [.slice 55] fun q r s =>
 bP 44 [.pointer (some j),vI k,vI 1,.slice q r s] true [] <| T.again 0 [bh k])
 (T.loop [cY,cY,aQ] [bg,bg,vI 0] fun l m n o p q r =>
 bt r b
 (T.loop [cY,cY,aQ] [.slice l m n,.slice o p q,vI 0] fun s t u v w x y =>
 aY r b a fun z =>
 T.af ((z.add (aI r 4)).add 2) [.slice 116] fun A B C =>
 bt y B
 (aY r b a fun D =>
 T.af ((D.add (aI r 4)).add 2) [.slice 116] fun E F G =>
 aY y F E fun H =>
 T.af (H.add (aI y 3)) [.string,.slice 64,.int .u32] fun I J K L M =>
 T.new [cm,bg,aF 0] 116 fun N =>
 T.aD N [.string I,.slice J K L,aF M] <|
 T.af N [.string] fun O =>
 T.af (N.add 1) (yL 64) fun P Q R S =>
 eG 45 [.pointer (some j),vI r,.string O] fun U =>
 T.bi [((N.add 1),[.slice P Q R,aF S])] <|
 bP 46 [.pointer (some j),vI r,.agg #[.slice P Q R,aF S]] false [(true,(yL 64))] fun V W X Y =>
 T.bi [(N,[.string O])] <|
 bn (Instr.buildSlice 67 1 #[(0,.agg #[.string U,.slice V W X,aF Y])]) fun Z a0 a1 =>
 T.bi [((N.add 1),[.slice P Q R,aF S]),(N,[.string O])] <|
 bn (Builtin.append_ #[67,67] 67 #[.slice s t u,.slice Z a0 a1]) fun a2 a3 a4 =>
 T.bi [((N.add 1),[.slice P Q R,aF S]),(N,[.string O])] <|
 bn (Instr.buildSlice 135 1 #[(0,vI y)]) fun a5 a6 a7 =>
 bn (Builtin.append_ #[135,135] 135 #[.slice v w x,.slice a5 a6 a7]) fun a8 a9 b0 =>
 T.again 2 [.slice a2 a3 a4,.slice a8 a9 b0,bh y])
 (T.again 1 [.slice s t u,.slice v w x,bh r]))
 (bP 47 [.slice l m n] true [(false,[.slice 116]),aQ,aQ] fun s t u v w =>
 cond (w != 0)
 (T.loop [aQ,aQ] [vI 0,vI v] fun x y =>
 aY x b a fun z =>
 T.af ((z.add (aI x 4)).add 2) [.slice 116] fun A B C =>
 cond (decide (y>=(B:Int)))
 (aY x b a fun D =>
 T.af ((D.add (aI x 4)).add 2) [.slice 116] fun E F G =>
 T.again 2 [bh x,vI (bq (y-(F:Int)))])
 (aY x b a fun D =>
 T.af ((D.add (aI x 4)).add 2) [.slice 116] fun E F G =>
 aY v p o fun H =>
 T.af (H.add (aI v 1)) [.int .i64] fun I =>
 aY I F E fun J =>
 T.af (J.add (aI I 3)) [.string] fun K =>
 T.bi [((J.add (aI I 3)),[.string K]),((H.add (aI v 1)),[vI I]),(((D.add (aI x 4)).add 2),[.slice E F G])] <|
 T.aD d [vI 24,vI x,.string K] <|
 T.af d [.int .i64,.int .i64,.string] fun L M N =>
 bG #[.pointer none,.agg #[vI L,vI M,.string N]]))
 (T.loop [aQ] [vI 0] fun x =>
 bt x b
 (T.af (j.add 2) [.slice 46] fun y z A =>
 aY x b a fun B =>
 T.af (B.add (aI x 4)) [.slice 55] fun C D E =>
 bP 48 [.pointer (some j),vI x,.slice C D E,.slice s t u] false [(false,[.slice 55])] fun F G H =>
 T.bi [((j.add 2),[.slice y z A])] <|
 bn (Instr.buildSlice 43 1 #[(0,.slice F G H)]) fun I J K =>
 T.bi [((B.add (aI x 4)),[.slice C D E]),((j.add 2),[.slice y z A])] <|
 bn (Builtin.append_ #[43,43] 43 #[.slice y z A,.slice I J K]) fun L M N =>
 T.bi [((B.add (aI x 4)),[.slice C D E])] <|
 T.aD (j.add 2) [.slice L M N] <|
 T.af (j.add 3) [.slice 46] fun O P Q =>
 aY x b a fun R =>
 T.af ((R.add (aI x 4)).add 1) [.slice 55] fun S U V =>
 bP 48 [.pointer (some j),vI x,.slice S U V,.slice s t u] false [(false,[.slice 55])] fun W X Y =>
 T.bi [((j.add 3),[.slice O P Q])] <|
 bn (Instr.buildSlice 43 1 #[(0,.slice W X Y)]) fun Z a0 a1 =>
 T.bi [(((R.add (aI x 4)).add 1),[.slice S U V]),((j.add 3),[.slice O P Q])] <|
 bn (Builtin.append_ #[43,43] 43 #[.slice O P Q,.slice Z a0 a1]) fun a2 a3 a4 =>
 T.bi [(((R.add (aI x 4)).add 1),[.slice S U V])] <|
 T.aD (j.add 3) [.slice a2 a3 a4] <|
 T.again 2 [bh x])
 (T.aD d [vI 0,vI 0,cm] <|
 T.af d [.int .i64,.int .i64,.string] fun y z A =>
 bG #[.pointer (some j),.agg #[vI y,vI z,.string A]])))))
def oz (a:Xac) (b c:Nat):bZ Xaz [] Tryz.f24 [.slice a b c]=kE a b c:=ax
def iU (a:Xac) (b c:Nat):T :=
 T.new [vI 0,vI 0,cm] 91 fun d =>
 cond ((b:Int)==0)
 (T.aD d [vI 25,vI 0,cm] <|
 T.af d [.int .i64,.int .i64,.string] fun e f g =>
 T.ret (.agg #[vI e,vI f,.string g]))
 (cond (decide ((b:Int)>64))
 (T.aD d [vI 4,vI 0,cm] <|
 T.af d [.int .i64,.int .i64,.string] fun e f g =>
 T.ret (.agg #[vI e,vI f,.string g]))
 (T.loop [aQ] [vI 0] fun e =>
 bt e b
 (aY e b a fun f =>
 T.af (f.add (aI e 4)) (yU 55 116) fun g h i j k l m n o p q r =>
 cQ 70 [.agg #[.slice g h i,.slice j k l,.slice m n o,.slice p q r]] fun s =>
 cond (s != 0)
 (T.aD d [vI 31,vI e,cm] <|
 T.af d [.int .i64,.int .i64,.string] fun t u v =>
 T.ret (.agg #[vI t,vI u,.string v]))
 (T.again 0 [bh e]))
 (T.loop [aQ] [vI 0] fun f =>
 bt f b
 (T.loop [aQ] [vI 0] fun g =>
 aY f b a fun h =>
 T.af ((h.add (aI f 4)).add 3) [.slice 9] fun i j k =>
 bt g j
 (T.loop [aQ] [vI 0] fun l =>
 cond (decide (l<f))
 (aY l b a fun m =>
 T.af ((m.add (aI l 4)).add 3) [.slice 9] fun n o p =>
 aY f b a fun q =>
 T.af ((q.add (aI f 4)).add 3) [.slice 9] fun r s t =>
 aY g s r fun u =>
 T.af (u.add (aI g 1)) [.string] fun v =>
 aZ 52 [.slice n o p,.string v] fun w =>
 T.bi [(((q.add (aI f 4)).add 3),[.slice r s t])] <|
 cond w
 (aY f b a fun x =>
 T.af ((x.add (aI f 4)).add 3) [.slice 9] fun y z A =>
 aY g z y fun B =>
 T.af (B.add (aI g 1)) [.string] fun C =>
 T.aD d [vI 22,vI f,.string C] <|
 T.af d [.int .i64,.int .i64,.string] fun D E F =>
 T.ret (.agg #[vI D,vI E,.string F]))
 (T.again 3 [bh l]))
 (T.again 2 [bh g]))
 (T.again 1 [bh f]))
 (T.loop [aQ] [vI 0] fun g =>
 bt g b
 (eG 71 [.slice a b c,vI g] fun h =>
 cond (!((ByteArray.toList h)==[]))
 (T.aD d [vI 23,vI g,.string h] <|
 T.af d [.int .i64,.int .i64,.string] fun i j k =>
 T.ret (.agg #[vI i,vI j,.string k]))
 (T.again 2 [bh g]))
 (T.aD d [vI 0,vI 0,cm] <|
 T.af d [.int .i64,.int .i64,.string] fun h i j =>
 T.ret (.agg #[vI h,vI i,.string j]))))))
def mG (a:Xac) (b c:Nat):bZ Xaz [] Tryz.f43 [.slice a b c]=iU a b c:=ax
def fB (a:Xac) (b c:Int) (d:Xac) (e f:Nat):T :=
 T.loop [aQ] [vI 0] fun g =>
 bt g e
 (aY g e d fun h =>
 T.af (h.add (aI g 10)) [.int .i64] fun i =>
 cond (i==1)
 (T.bf a fun j =>
 T.af (j.add 1) [.slice 178] fun k l m =>
 aY g e d fun n =>
 T.af ((n.add (aI g 10)).add 1) [.string] fun o =>
 bn (Instr.buildSlice 42 1 #[(0,.agg #[vI b,vI c,vI g,.string o])]) fun p q r =>
 T.bi [(((n.add (aI g 10)).add 1),[.string o]),((j.add 1),[.slice k l m])] <|
 bn (Builtin.append_ #[42,42] 42 #[.slice k l m,.slice p q r]) fun s t u =>
 T.bi [(((n.add (aI g 10)).add 1),[.string o])] <|
 T.bf a fun v =>
 T.aD (v.add 1) [.slice s t u] <|
 T.again 0 [bh g])
 (T.again 0 [bh g]))
 (bG #[])
def iZ (a:Xac) (b c:Int) (d:Xac) (e f:Nat):bZ Xaz [] Tryz.f44 [.pointer a,vI b,vI c,.slice d e f]=fB a b c d e f:=ax
def fH (a:Xac) (b:Int) (c:Xaa):T :=
 T.bf a fun d =>
 T.af d [.slice 70] fun e f g =>
 cQ 72 [.slice e f g,vI b,.string c] fun h =>
 T.loop [(false,[.string]),aQ] [cm,vI 0] fun i j =>
 T.bf a fun k =>
 T.af (k.add 1) [.slice 178] fun l m n =>
 bt j m
 (T.bf a fun o =>
 T.af (o.add 1) [.slice 178] fun p q r =>
 aY j q p fun s =>
 T.af (s.add (aI j 4)) [.int .i64] fun t =>
 cond (t==h)
 (T.bf a fun u =>
 T.af (u.add 1) [.slice 178] fun v w x =>
 aY j w v fun y =>
 T.af ((y.add (aI j 4)).add 3) [.string] fun z =>
 cond ((ByteArray.toList z)==(ByteArray.toList c))
 (eG 73 [vI j] fun A =>
 T.need ((((1+A.size):Nat):Int)<=9223372036854775807) <|
 T.ret (.string (⟨#[76]⟩++A)))
 (T.again 0 [.string i,bh j]))
 (T.again 0 [.string i,bh j]))
 (eG 73 [vI h] fun o =>
 T.need ((((1+o.size):Nat):Int)<=9223372036854775807) <|
 T.need (((((ByteArray.size (⟨#[69]⟩++o))+1):Nat):Int)<=9223372036854775807) <|
 T.need (((((ByteArray.size ((⟨#[69]⟩++o)++⟨#[95]⟩))+c.size):Nat):Int)<=9223372036854775807) <|
 T.ret (.string (((⟨#[69]⟩++o)++⟨#[95]⟩)++c)))
def jt (a:Xac) (b:Int) (c:Xaa):bZ Xaz [] Tryz.f45 [.pointer a,vI b,.string c]=fH a b c:=ax
def fw (a:Xac) (b:Int) (c:Xac) (d e:Nat) (f:Int):T :=
 T.new [.slice c d e,aF f] 53 fun g =>
 T.new [bg,aF 0] 53 fun h =>
 T.af (g.add 1) [.int .u32] fun i =>
 T.new [bg,aF 0] 53 fun j =>
 T.aD j [bg,aF i] <|
 T.loop [aQ] [vI 0] fun k =>
 T.af g [.slice 64] fun l m n =>
 bt k m
 (T.af j (yL 64) fun o p q r =>
 T.af g [.slice 64] fun s t u =>
 aY k t s fun v =>
 T.af (v.add (aI k 2)) [.string] fun w =>
 T.af g [.slice 64] fun x y z =>
 aY k y x fun A =>
 T.af ((A.add (aI k 2)).add 1) [.int .u32] fun B =>
 eG 45 [.pointer a,vI b,.string w] fun C =>
 T.bi [(((A.add (aI k 2)).add 1),[aF B]),(g,[.slice x y z]),(g,[.slice s t u]),(j,[.slice o p q,aF r])] <|
 bn (Instr.buildSlice 50 1 #[(0,.agg #[.string C,aF B])]) fun D E F =>
 T.bi [(((A.add (aI k 2)).add 1),[aF B]),(g,[.slice x y z]),((v.add (aI k 2)),[.string w]),(g,[.slice s t u]),(j,[.slice o p q,aF r])] <|
 bP 74 [.agg #[.slice o p q,aF r],.agg #[.slice D E F,aF 0]] false [(true,(yL 64))] fun G H I J =>
 T.bi [(((A.add (aI k 2)).add 1),[aF B]),(g,[.slice x y z]),((v.add (aI k 2)),[.string w]),(g,[.slice s t u])] <|
 T.aD j [.slice G H I,aF J] <|
 T.again 0 [bh k])
 (T.af j (yL 64) fun o p q r =>
 T.aD h [.slice o p q,aF r] <|
 T.af h (yL 64) fun s t u v =>
 T.ret (.agg #[.slice s t u,aF v]))
def iY (a:Xac) (b:Int) (c:Xac) (d e:Nat) (f:Int):bZ Xaz [] Tryz.f46 [.pointer a,vI b,.agg #[.slice c d e,.int .u32 f]]=fw a b c d e f:=ax
def fk (a:Xac) (b:Int) (c:Xac) (d e:Nat) (f:Xac) (g h:Nat):T :=
 bn (Instr.buildSlice 46 0 #[]) fun i j k =>
 bn (Builtin.append_ #[46,46] 46 #[.slice i j k,.slice c d e]) fun l m n =>
 T.loop [aQ] [vI 0] fun o =>
 bt o m
 (aY o m l fun p =>
 T.af ((p.add (aI o 10)).add 7) (yL 64) fun q r s t =>
 bP 46 [.pointer a,vI b,.agg #[.slice q r s,aF t]] false [(true,(yL 64))] fun u v w x =>
 bP 76 [.agg #[.slice u v w,aF x],.slice f g h] false [(true,(yL 64))] fun y z A B =>
 aY o m l fun C =>
 T.aD ((C.add (aI o 10)).add 7) [.slice y z A,aF B] <|
 T.again 0 [bh o])
 (T.ret (.slice l m n))
def iJ (a:Xac) (b:Int) (c:Xac) (d e:Nat) (f:Xac) (g h:Nat):bZ Xaz [] Tryz.f48 [.pointer a,vI b,.slice c d e,.slice f g h]=fk a b c d e f g h:=ax
def jK (a:Xac) (b c:Nat) (d:Int) (e:Xaa):T :=
 aY d b a fun f =>
 T.af (f.add (aI d 4)) (yU 55 116) fun g h i j k l m n o p q r =>
 bP 98 [.agg #[.slice g h i,.slice j k l,.slice m n o,.slice p q r]] false [(false,[.slice 9])] fun s t u =>
 aZ 52 [.slice s t u,.string e] fun v =>
 cond v
 (T.ret (vI d))
 (T.loop [aQ,aQ] [vI 0,vI 0] fun w x =>
 bt x b
 (aY x b a fun y =>
 T.af ((y.add (aI x 4)).add 3) [.slice 9] fun z A B =>
 aZ 52 [.slice z A B,.string e] fun C =>
 cond C
 (T.ret (vI x))
 (T.again 0 [vI w,bh x]))
 (T.ret (vI (-1))))
def nW (a:Xac) (b c:Nat) (d:Int) (e:Xaa):bZ Xaz [] Tryz.f72 [.slice a b c,vI d,.string e]=jK a b c d e:=ax
def gY (a:Xac) (b c:Nat) (d:Int):T :=
 aY d b a fun e =>
 T.af (e.add (aI d 4)) (yU 55 116) fun f g h i j k l m n o p q =>
 T.new [bg,bg,bg,bg] 70 fun r =>
 T.aD r [.slice f g h,.slice i j k,.slice l m n,.slice o p q] <|
 T.af r [.slice 55] fun s t u =>
 T.af (r.add 1) [.slice 55] fun v w x =>
 bn (Instr.buildSlice 46 0 #[]) fun y z A =>
 T.bi [((r.add 1),[.slice v w x]),(r,[.slice s t u])] <|
 bn (Builtin.append_ #[46,46] 46 #[.slice y z A,.slice s t u]) fun B C D =>
 T.bi [((r.add 1),[.slice v w x])] <|
 bn (Builtin.append_ #[46,46] 46 #[.slice B C D,.slice v w x]) fun E F G =>
 T.bi [(r,[.slice s t u])] <|
 T.loop [(false,[.string]),aQ] [cm,vI 0] fun H I =>
 bt I F
 (aY I F E fun J =>
 T.af ((J.add (aI I 10)).add 7) (yL 64) fun K L M N =>
 eG 99 [.slice a b c,vI d,.agg #[.slice K L M,aF N]] fun O =>
 cond (!((ByteArray.toList O)==[]))
 (T.ret (.string O))
 (T.again 0 [.string H,bh I]))
 (T.loop [(false,[.string]),aQ] [.string H,vI 0] fun J K =>
 T.af (r.add 2) [.slice 116] fun L M N =>
 bt K M
 (T.af (r.add 2) [.slice 116] fun O P Q =>
 aY K P O fun R =>
 T.af ((R.add (aI K 3)).add 1) (yL 64) fun S U V W =>
 eG 99 [.slice a b c,vI d,.agg #[.slice S U V,aF W]] fun X =>
 cond (!((ByteArray.toList X)==[]))
 (T.ret (.string X))
 (T.again 1 [.string J,bh K]))
 (T.ret (cm)))
def kP (a:Xac) (b c:Nat) (d:Int):bZ Xaz [] Tryz.f71 [.slice a b c,vI d]=gY a b c d:=ax
def jf (a:Int):T :=
 T.loop [aQ,(false,[.string])] [vI a,cm] fun b c =>
 cond (decide (b>0))
 (T.need ((10:Int)≠0) <|
 bn (Instr.buildSlice 204 1 #[(0,.int .u8 (IntKind.wrap .u8 (bq (48+(Int.tmod b 10)))))]) fun d e f =>
 bQ (convert 204 9 (.slice d e f)) false [(false,[.string])] fun g =>
 T.need ((((g.size+c.size):Nat):Int)<=9223372036854775807) <|
 T.need ((10:Int)≠0) <|
 T.again 0 [vI (bq (Int.tdiv b 10)),.string (g++c)])
 (cond ((ByteArray.toList c)==[])
 (T.need ((10:Int)≠0) <|
 bn (Instr.buildSlice 204 1 #[(0,.int .u8 (IntKind.wrap .u8 (bq (48+(Int.tmod b 10)))))]) fun d e f =>
 bQ (convert 204 9 (.slice d e f)) false [(false,[.string])] fun g =>
 T.need ((((g.size+c.size):Nat):Int)<=9223372036854775807) <|
 T.need ((10:Int)≠0) <|
 T.again 0 [vI (bq (Int.tdiv b 10)),.string (g++c)])
 (T.ret (.string c)))
def nt (a:Int):bZ Xaz [] Tryz.f73 [vI a]=jf a:=ax
def jG (a:Xac) (b c:Nat) (d:Int) (e:Xac) (f g:Nat) (h:Int):T :=
 T.new [.slice e f g,aF h] 53 fun i =>
 T.loop [(false,[.string]),aQ] [cm,vI 0] fun j k =>
 T.af i [.slice 64] fun l m n =>
 bt k m
 (T.af i [.slice 64] fun o p q =>
 aY k p o fun r =>
 T.af (r.add (aI k 2)) [.string] fun s =>
 cQ 72 [.slice a b c,vI d,.string s] fun t =>
 cond (decide (t<0))
 (T.af i [.slice 64] fun u v w =>
 aY k v u fun x =>
 T.af (x.add (aI k 2)) [.string] fun y =>
 T.ret (.string y))
 (T.again 0 [.string j,bh k]))
 (T.ret (cm))
def nY (a:Xac) (b c:Nat) (d:Int) (e:Xac) (f g:Nat) (h:Int):bZ Xaz [] Tryz.f99 [.slice a b c,vI d,.agg #[.slice e f g,.int .u32 h]]=jG a b c d e f g h:=ax
end Go.Sx
