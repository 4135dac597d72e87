/- Trees of functions. No condition. -/
import Derived.Test.YtmdncdaladplkaaGreatDoorSxF
import Derived.Test.YtmdncdaladplkaaGreatDoorProg
import Derived.KernelRfl
set_option linter.all false
set_option maxRecDepth 100000
set_option maxHeartbeats 4000000
namespace Go.Sx
open Go.Proofs
def xd (a:Xac) (b c:Nat) (d:Xac) (e f:Nat) (g:Xac) (h i:Nat) (j:Xac) (k l:Nat):T :=
 T.new [.slice a b c,.slice d e f,.slice g h i,.slice j k l] 70 fun m =>
 T.af m (yU 55 116) fun n o p q r s t u v w x y =>
 cE 30 [.agg #[.slice n o p,.slice q r s,.slice t u v,.slice w x y]] fun z =>
 cond (z != 0)
 (T.ret (vI 0))
 (T.af m [.slice 55] fun A B C =>
 T.loop [aM,aM] [vI 0,vI 0] fun D E =>
 bq E B
 (aR E B A fun F =>
 T.af (F.add (aH E 10)) (yI 64) fun G H I J K L M N O P Q R =>
 T.new [vI 0,bZ,vI 0,vI 0,vI 0,.int .i32 0,vI 0,aZ,aC 0,vI 0] 55 fun S =>
 T.ax S [vI G,.string H,vI I,vI J,vI K,.int .i32 L,vI M,.slice N O P,aC Q,vI R] <|
 T.af S [.int .i64] fun U =>
 cond (U==2)
 (T.af (S.add 2) [.int .i64] fun V =>
 aT 60 [vI V] fun W =>
 cond W
 (T.again 0 [aY D,aY E])
 (T.again 0 [vI D,aY E]))
 (T.again 0 [vI D,aY E]))
 (T.ret (vI D)))
def zO (a:Xac) (b c:Nat) (d:Xac) (e f:Nat) (g:Xac) (h i:Nat) (j:Xac) (k l:Nat):bS Xaz [] Tryz.f36 [.agg #[.slice a b c,.slice d e f,.slice g h i,.slice j k l]]=xd a b c d e f g h i j k l:=av
def jv (a:Xac) (b c:Nat):T :=
 bM 75 [.slice a b c] false [(false,[.slice 3])] fun d e f =>
 cond (decide ((e:Int)>0))
 (T.need (lr 0 e) <|
 T.bi d fun g =>
 T.af g [.int .i64] fun h =>
 T.bh [(g,[vI h])] <|
 bj #[aZ,vI h,vI 24])
 (bd (Instr.buildSlice 67 0 #[]) fun g h i =>
 bd (Builtin.append_ #[67,67] 67 #[.slice g h i,.slice a b c]) fun j k l =>
 T.loop [aM] [vI 0] fun m =>
 bq m b
 (T.loop [aM] [vI 0] fun n =>
 bq n k
 (aR n k j fun o =>
 T.af ((o.add (aH n 3)).add 1) (yL 64) fun p q r s =>
 bM 76 [.agg #[.slice p q r,aC s],.slice a b c] false [(true,(yL 64))] fun t u v w =>
 aR n k j fun x =>
 T.ax ((x.add (aH n 3)).add 1) [.slice t u v,aC w] <|
 T.again 1 [aY n])
 (T.again 0 [aY m]))
 (bj #[.slice j k l,vI 0,vI 0]))
def ov (a:Xac) (b c:Nat):bS Xaz [] Tryz.f47 [.slice a b c]=jv a b c:=av
def kF (a:Xac) (b c:Nat):T :=
 T.loop [cR,aM] [aZ,vI 0] fun d e f g =>
 bq g b
 (aT 100 [.slice a b c,vI g,vI g] fun h =>
 cond h
 (bd (Instr.buildSlice 135 1 #[(0,vI g)]) fun i j k =>
 bd (Builtin.append_ #[135,135] 135 #[.slice d e f,.slice i j k]) fun l m n =>
 T.again 0 [.slice l m n,aY g])
 (T.again 0 [.slice d e f,aY g]))
 (T.ret (.slice d e f))
def pO (a:Xac) (b c:Nat):bS Xaz [] Tryz.f75 [.slice a b c]=kF a b c:=av
def lz (a:Xac) (b c:Nat) (d:Int) (e:Xac) (f g:Nat):T :=
 T.new [.slice a b c,aC d] 53 fun h =>
 T.new [aZ,aC 0] 53 fun i =>
 T.af (h.add 1) [.int .u32] fun j =>
 T.new [aZ,aC 0] 53 fun k =>
 T.ax k [aZ,aC j] <|
 T.loop [aM] [vI 0] fun l =>
 T.af h [.slice 64] fun m n o =>
 bq l n
 (T.af h [.slice 64] fun p q r =>
 aR l q p fun s =>
 T.af (s.add (aH l 2)) [.string] fun t =>
 cE 101 [.slice e f g,.string t] fun u =>
 T.af h [.slice 64] fun v w x =>
 aR l w v fun y =>
 T.af (y.add (aH l 2)) [.string,.int .u32] fun z A =>
 bd (Instr.buildSlice 50 1 #[(0,.agg #[.string z,aC A])]) fun B C D =>
 T.new [aZ,aC 0] 53 fun E =>
 T.ax E [.slice B C D,aC 0] <|
 cond (decide (u>=0))
 (aR u f e fun F =>
 T.af ((F.add (aH u 3)).add 1) (yL 64) fun G H I J =>
 T.af h [.slice 64] fun K L M =>
 aR l L K fun N =>
 T.af ((N.add (aH l 2)).add 1) [.int .u32] fun O =>
 bM 102 [.agg #[.slice G H I,aC J],aC O] false [(true,(yL 64))] fun P Q R S =>
 T.bh [(h,[.slice K L M])] <|
 T.ax E [.slice P Q R,aC S] <|
 T.af k (yL 64) fun U V W X =>
 T.af E (yL 64) fun Y Z a0 a1 =>
 bM 74 [.agg #[.slice U V W,aC X],.agg #[.slice Y Z a0,aC a1]] false [(true,(yL 64))] fun a2 a3 a4 a5 =>
 T.ax k [.slice a2 a3 a4,aC a5] <|
 T.again 0 [aY l])
 (T.af k (yL 64) fun F G H I =>
 T.af E (yL 64) fun J K L M =>
 bM 74 [.agg #[.slice F G H,aC I],.agg #[.slice J K L,aC M]] false [(true,(yL 64))] fun N O P Q =>
 T.ax k [.slice N O P,aC Q] <|
 T.again 0 [aY l]))
 (T.af k (yL 64) fun p q r s =>
 T.ax i [.slice p q r,aC s] <|
 T.af i (yL 64) fun t u v w =>
 T.ret (.agg #[.slice t u v,aC w]))
def qK (a:Xac) (b c:Nat) (d:Int) (e:Xac) (f g:Nat):bS Xaz [] Tryz.f76 [.agg #[.slice a b c,.int .u32 d],.slice e f g]=lz a b c d e f g:=av
def lF (a:Xac) (b c:Nat) (d e:Int):T :=
 bd (Instr.makeSlice 243 (vI (b:Int)) (vI (b:Int))) fun f g h =>
 bd (Instr.buildSlice 135 1 #[(0,vI d)]) fun i j k =>
 T.loop [ct,cR] [.bool false,.slice i j k] fun l m n o =>
 cond (decide ((n:Int)>0))
 (T.need ((0<=(bn ((n:Int)-1)))/\((bn ((n:Int)-1))<(n:Int))) <|
 T.bi m fun p =>
 T.af (p.add ((Int.toNat (bn ((n:Int)-1)))*1)) [.int .i64] fun q =>
 T.need (((0:Int)<=0)/\((0<=(bn ((n:Int)-1)))/\((bn ((n:Int)-1))<=(o:Int)))) <|
 T.loop [ct,cR,aM] [.bool l,.slice (if (o=0) then m else (Option.map (fun r=>Addr.add r 0) m)) ((Int.toNat (bn ((n:Int)-1)))-0) (o-0),vI 0] fun r s t u v =>
 aR q b a fun w =>
 T.af ((w.add (aH q 3)).add 1) [.slice 64] fun x y z =>
 bq v y
 (aR q b a fun A =>
 T.af ((A.add (aH q 3)).add 1) [.slice 64] fun B C D =>
 aR v C B fun E =>
 T.af (E.add (aH v 2)) [.string] fun F =>
 cE 101 [.slice a b c,.string F] fun G =>
 cond (G==e)
 dX
 (cond (decide (G>=0))
 (aR G g f fun H =>
 T.af (H.add (aH G 1)) [.bool] fun I =>
 cond (!I)
 (aR G g f fun J =>
 T.ax (J.add (aH G 1)) [.bool true] <|
 bd (Instr.buildSlice 135 1 #[(0,vI G)]) fun K L M =>
 bd (Builtin.append_ #[135,135] 135 #[.slice s t u,.slice K L M]) fun N O P =>
 T.again 1 [.bool r,.slice N O P,aY v])
 (T.again 1 [.bool r,.slice s t u,aY v]))
 (T.again 1 [.bool r,.slice s t u,aY v])))
 (T.again 0 [.bool r,.slice s t u]))
 bH
def qy (a:Xac) (b c:Nat) (d e:Int):bS Xaz [] Tryz.f100 [.slice a b c,vI d,vI e]=lF a b c d e:=av
def kM (a:Xac) (b c:Nat) (d:Xaa):T :=
 T.loop [aM,aM] [vI 0,vI 0] fun e f =>
 bq f b
 (aR f b a fun g =>
 T.af (g.add (aH f 3)) [.string] fun h =>
 cond ((ByteArray.toList h)==(ByteArray.toList d))
 (T.ret (vI f))
 (T.again 0 [vI e,aY f]))
 (T.ret (vI (-1)))
def oF (a:Xac) (b c:Nat) (d:Xaa):bS Xaz [] Tryz.f101 [.slice a b c,.string d]=kM a b c d:=av
def kE (a:Xac) (b c:Nat):T :=
 T.new [vI 0,vI 0,bZ] 91 fun d =>
 bM 43 [.slice a b c] false [(true,[.int .i64,.int .i64,.string])] fun e f g =>
 T.new [vI 0,vI 0,bZ] 91 fun h =>
 T.ax h [vI e,vI f,.string g] <|
 T.af h [.int .i64] fun i =>
 cond (i != 0)
 (T.af h [.int .i64,.int .i64,.string] fun j k l =>
 T.bh [(h,[vI j,vI k,.string l])] <|
 T.ax d [vI j,vI k,.string l] <|
 T.af d [.int .i64,.int .i64,.string] fun m n o =>
 bj #[.pointer none,.agg #[vI m,vI n,.string o]])
 (T.new [.slice a b c,aZ,aZ,aZ] 45 fun j =>
 T.loop [aM] [vI 0] fun k =>
 bq k b
 (aR k b a fun l =>
 T.af (l.add (aH k 4)) [.slice 55] fun m n o =>
 bM 44 [.pointer (some j),vI k,vI 0,.slice m n o] true [] <| aR k b a fun p =>
 T.af ((p.add (aH k 4)).add 1) [.slice 55] fun q r s =>
 bM 44 [.pointer (some j),vI k,vI 1,.slice q r s] true [] <| T.again 0 [aY k])
 (T.loop [cR,cR,aM] [aZ,aZ,vI 0] fun l m n o p q r =>
 bq r b
 (T.loop [cR,cR,aM] [.slice l m n,.slice o p q,vI 0] fun s t u v w x y =>
 aR r b a fun z =>
 T.af ((z.add (aH r 4)).add 2) [.slice 116] fun A B C =>
 bq y B
 (aR r b a fun D =>
 T.af ((D.add (aH r 4)).add 2) [.slice 116] fun E F G =>
 aR y F E fun H =>
 T.af (H.add (aH y 3)) [.string,.slice 64,.int .u32] fun I J K L M =>
 T.new [bZ,aZ,aC 0] 116 fun N =>
 T.ax N [.string I,.slice J K L,aC M] <|
 T.af N [.string] fun O =>
 T.af (N.add 1) (yL 64) fun P Q R S =>
 eE 45 [.pointer (some j),vI r,.string O] fun U =>
 T.bh [((N.add 1),[.slice P Q R,aC S])] <|
 bM 46 [.pointer (some j),vI r,.agg #[.slice P Q R,aC S]] false [(true,(yL 64))] fun V W X Y =>
 T.bh [(N,[.string O])] <|
 bd (Instr.buildSlice 67 1 #[(0,.agg #[.string U,.slice V W X,aC Y])]) fun Z a0 a1 =>
 T.bh [((N.add 1),[.slice P Q R,aC S]),(N,[.string O])] <|
 bd (Builtin.append_ #[67,67] 67 #[.slice s t u,.slice Z a0 a1]) fun a2 a3 a4 =>
 T.bh [((N.add 1),[.slice P Q R,aC S]),(N,[.string O])] <|
 bd (Instr.buildSlice 135 1 #[(0,vI y)]) fun a5 a6 a7 =>
 bd (Builtin.append_ #[135,135] 135 #[.slice v w x,.slice a5 a6 a7]) fun a8 a9 b0 =>
 T.again 2 [.slice a2 a3 a4,.slice a8 a9 b0,aY y])
 (T.again 1 [.slice s t u,.slice v w x,aY r]))
 (bM 47 [.slice l m n] true [(false,[.slice 116]),aM,aM] fun s t u v w =>
 cond (w != 0)
 (T.loop [aM,aM] [vI 0,vI v] fun x y =>
 aR x b a fun z =>
 T.af ((z.add (aH x 4)).add 2) [.slice 116] fun A B C =>
 cond (decide (y>=(B:Int)))
 (aR x b a fun D =>
 T.af ((D.add (aH x 4)).add 2) [.slice 116] fun E F G =>
 T.again 2 [aY x,vI (bn (y-(F:Int)))])
 (aR x b a fun D =>
 T.af ((D.add (aH x 4)).add 2) [.slice 116] fun E F G =>
 aR v p o fun H =>
 T.af (H.add (aH v 1)) [.int .i64] fun I =>
 aR I F E fun J =>
 T.af (J.add (aH I 3)) [.string] fun K =>
 T.bh [((J.add (aH I 3)),[.string K]),((H.add (aH v 1)),[vI I]),(((D.add (aH x 4)).add 2),[.slice E F G])] <|
 T.ax d [vI 24,vI x,.string K] <|
 T.af d [.int .i64,.int .i64,.string] fun L M N =>
 bj #[.pointer none,.agg #[vI L,vI M,.string N]]))
 (T.loop [aM] [vI 0] fun x =>
 bq x b
 (T.af (j.add 2) [.slice 46] fun y z A =>
 aR x b a fun B =>
 T.af (B.add (aH x 4)) [.slice 55] fun C D E =>
 bM 48 [.pointer (some j),vI x,.slice C D E,.slice s t u] false [(false,[.slice 55])] fun F G H =>
 T.bh [((j.add 2),[.slice y z A])] <|
 bd (Instr.buildSlice 43 1 #[(0,.slice F G H)]) fun I J K =>
 T.bh [((B.add (aH x 4)),[.slice C D E]),((j.add 2),[.slice y z A])] <|
 bd (Builtin.append_ #[43,43] 43 #[.slice y z A,.slice I J K]) fun L M N =>
 T.bh [((B.add (aH x 4)),[.slice C D E])] <|
 T.ax (j.add 2) [.slice L M N] <|
 T.af (j.add 3) [.slice 46] fun O P Q =>
 aR x b a fun R =>
 T.af ((R.add (aH x 4)).add 1) [.slice 55] fun S U V =>
 bM 48 [.pointer (some j),vI x,.slice S U V,.slice s t u] false [(false,[.slice 55])] fun W X Y =>
 T.bh [((j.add 3),[.slice O P Q])] <|
 bd (Instr.buildSlice 43 1 #[(0,.slice W X Y)]) fun Z a0 a1 =>
 T.bh [(((R.add (aH x 4)).add 1),[.slice S U V]),((j.add 3),[.slice O P Q])] <|
 bd (Builtin.append_ #[43,43] 43 #[.slice O P Q,.slice Z a0 a1]) fun a2 a3 a4 =>
 T.bh [(((R.add (aH x 4)).add 1),[.slice S U V])] <|
 T.ax (j.add 3) [.slice a2 a3 a4] <|
 T.again 2 [aY x])
 (T.ax d [vI 0,vI 0,bZ] <|
 T.af d [.int .i64,.int .i64,.string] fun y z A =>
 bj #[.pointer (some j),.agg #[vI y,vI z,.string A]])))))
def oA (a:Xac) (b c:Nat):bS Xaz [] Tryz.f24 [.slice a b c]=kE a b c:=av
def iL (a:Xac) (b c:Nat):T :=
 T.new [vI 0,vI 0,bZ] 91 fun d =>
 cond ((b:Int)==0)
 (T.ax d [vI 25,vI 0,bZ] <|
 T.af d [.int .i64,.int .i64,.string] fun e f g =>
 T.ret (.agg #[vI e,vI f,.string g]))
 (cond (decide ((b:Int)>64))
 (T.ax d [vI 4,vI 0,bZ] <|
 T.af d [.int .i64,.int .i64,.string] fun e f g =>
 T.ret (.agg #[vI e,vI f,.string g]))
 (T.loop [aM] [vI 0] fun e =>
 bq e b
 (aR e b a fun f =>
 T.af (f.add (aH e 4)) (yU 55 116) fun g h i j k l m n o p q r =>
 cE 70 [.agg #[.slice g h i,.slice j k l,.slice m n o,.slice p q r]] fun s =>
 cond (s != 0)
 (T.ax d [vI 31,vI e,bZ] <|
 T.af d [.int .i64,.int .i64,.string] fun t u v =>
 T.ret (.agg #[vI t,vI u,.string v]))
 (T.again 0 [aY e]))
 (T.loop [aM] [vI 0] fun f =>
 bq f b
 (T.loop [aM] [vI 0] fun g =>
 aR f b a fun h =>
 T.af ((h.add (aH f 4)).add 3) [.slice 9] fun i j k =>
 bq g j
 (T.loop [aM] [vI 0] fun l =>
 cond (decide (l<f))
 (aR l b a fun m =>
 T.af ((m.add (aH l 4)).add 3) [.slice 9] fun n o p =>
 aR f b a fun q =>
 T.af ((q.add (aH f 4)).add 3) [.slice 9] fun r s t =>
 aR g s r fun u =>
 T.af (u.add (aH g 1)) [.string] fun v =>
 aT 52 [.slice n o p,.string v] fun w =>
 T.bh [(((q.add (aH f 4)).add 3),[.slice r s t])] <|
 cond w
 (aR f b a fun x =>
 T.af ((x.add (aH f 4)).add 3) [.slice 9] fun y z A =>
 aR g z y fun B =>
 T.af (B.add (aH g 1)) [.string] fun C =>
 T.ax d [vI 22,vI f,.string C] <|
 T.af d [.int .i64,.int .i64,.string] fun D E F =>
 T.ret (.agg #[vI D,vI E,.string F]))
 (T.again 3 [aY l]))
 (T.again 2 [aY g]))
 (T.again 1 [aY f]))
 (T.loop [aM] [vI 0] fun g =>
 bq g b
 (eE 71 [.slice a b c,vI g] fun h =>
 cond (!((ByteArray.toList h)==[]))
 (T.ax d [vI 23,vI g,.string h] <|
 T.af d [.int .i64,.int .i64,.string] fun i j k =>
 T.ret (.agg #[vI i,vI j,.string k]))
 (T.again 2 [aY g]))
 (T.ax d [vI 0,vI 0,bZ] <|
 T.af d [.int .i64,.int .i64,.string] fun h i j =>
 T.ret (.agg #[vI h,vI i,.string j]))))))
def mG (a:Xac) (b c:Nat):bS Xaz [] Tryz.f43 [.slice a b c]=iL a b c:=av
def fw (a:Xac) (b c:Int) (d:Xac) (e f:Nat):T :=
 T.loop [aM] [vI 0] fun g =>
 bq g e
 (aR g e d fun h =>
 T.af (h.add (aH g 10)) [.int .i64] fun i =>
 cond (i==1)
 (T.bi a fun j =>
 T.af (j.add 1) [.slice 178] fun k l m =>
 aR g e d fun n =>
 T.af ((n.add (aH g 10)).add 1) [.string] fun o =>
 bd (Instr.buildSlice 42 1 #[(0,.agg #[vI b,vI c,vI g,.string o])]) fun p q r =>
 T.bh [(((n.add (aH g 10)).add 1),[.string o]),((j.add 1),[.slice k l m])] <|
 bd (Builtin.append_ #[42,42] 42 #[.slice k l m,.slice p q r]) fun s t u =>
 T.bh [(((n.add (aH g 10)).add 1),[.string o])] <|
 T.bi a fun v =>
 T.ax (v.add 1) [.slice s t u] <|
 T.again 0 [aY g])
 (T.again 0 [aY g]))
 (bj #[])
def iQ (a:Xac) (b c:Int) (d:Xac) (e f:Nat):bS Xaz [] Tryz.f44 [.pointer a,vI b,vI c,.slice d e f]=fw a b c d e f:=av
def fB (a:Xac) (b:Int) (c:Xaa):T :=
 T.bi a fun d =>
 T.af d [.slice 70] fun e f g =>
 cE 72 [.slice e f g,vI b,.string c] fun h =>
 T.loop [(false,[.string]),aM] [bZ,vI 0] fun i j =>
 T.bi a fun k =>
 T.af (k.add 1) [.slice 178] fun l m n =>
 bq j m
 (T.bi a fun o =>
 T.af (o.add 1) [.slice 178] fun p q r =>
 aR j q p fun s =>
 T.af (s.add (aH j 4)) [.int .i64] fun t =>
 cond (t==h)
 (T.bi a fun u =>
 T.af (u.add 1) [.slice 178] fun v w x =>
 aR j w v fun y =>
 T.af ((y.add (aH j 4)).add 3) [.string] fun z =>
 cond ((ByteArray.toList z)==(ByteArray.toList c))
 (eE 73 [vI j] fun A =>
 T.need ((((1+A.size):Nat):Int)<=9223372036854775807) <|
 T.ret (.string (⟨#[76]⟩++A)))
 (T.again 0 [.string i,aY j]))
 (T.again 0 [.string i,aY j]))
 (eE 73 [vI h] fun o =>
 T.need ((((1+o.size):Nat):Int)<=9223372036854775807) <|
 T.need (((((ByteArray.size (⟨#[69]⟩++o))+1):Nat):Int)<=9223372036854775807) <|
 T.need (((((ByteArray.size ((⟨#[69]⟩++o)++⟨#[95]⟩))+c.size):Nat):Int)<=9223372036854775807) <|
 T.ret (.string (((⟨#[69]⟩++o)++⟨#[95]⟩)++c)))
def ji (a:Xac) (b:Int) (c:Xaa):bS Xaz [] Tryz.f45 [.pointer a,vI b,.string c]=fB a b c:=av
def fp (a:Xac) (b:Int) (c:Xac) (d e:Nat) (f:Int):T :=
 T.new [.slice c d e,aC f] 53 fun g =>
 T.new [aZ,aC 0] 53 fun h =>
 T.af (g.add 1) [.int .u32] fun i =>
 T.new [aZ,aC 0] 53 fun j =>
 T.ax j [aZ,aC i] <|
 T.loop [aM] [vI 0] fun k =>
 T.af g [.slice 64] fun l m n =>
 bq k m
 (T.af j (yL 64) fun o p q r =>
 T.af g [.slice 64] fun s t u =>
 aR k t s fun v =>
 T.af (v.add (aH k 2)) [.string] fun w =>
 T.af g [.slice 64] fun x y z =>
 aR k y x fun A =>
 T.af ((A.add (aH k 2)).add 1) [.int .u32] fun B =>
 eE 45 [.pointer a,vI b,.string w] fun C =>
 T.bh [(((A.add (aH k 2)).add 1),[aC B]),(g,[.slice x y z]),(g,[.slice s t u]),(j,[.slice o p q,aC r])] <|
 bd (Instr.buildSlice 50 1 #[(0,.agg #[.string C,aC B])]) fun D E F =>
 T.bh [(((A.add (aH k 2)).add 1),[aC B]),(g,[.slice x y z]),((v.add (aH k 2)),[.string w]),(g,[.slice s t u]),(j,[.slice o p q,aC r])] <|
 bM 74 [.agg #[.slice o p q,aC r],.agg #[.slice D E F,aC 0]] false [(true,(yL 64))] fun G H I J =>
 T.bh [(((A.add (aH k 2)).add 1),[aC B]),(g,[.slice x y z]),((v.add (aH k 2)),[.string w]),(g,[.slice s t u])] <|
 T.ax j [.slice G H I,aC J] <|
 T.again 0 [aY k])
 (T.af j (yL 64) fun o p q r =>
 T.ax h [.slice o p q,aC r] <|
 T.af h (yL 64) fun s t u v =>
 T.ret (.agg #[.slice s t u,aC v]))
def iP (a:Xac) (b:Int) (c:Xac) (d e:Nat) (f:Int):bS Xaz [] Tryz.f46 [.pointer a,vI b,.agg #[.slice c d e,.int .u32 f]]=fp a b c d e f:=av
def fe (a:Xac) (b:Int) (c:Xac) (d e:Nat) (f:Xac) (g h:Nat):T :=
 bd (Instr.buildSlice 46 0 #[]) fun i j k =>
 bd (Builtin.append_ #[46,46] 46 #[.slice i j k,.slice c d e]) fun l m n =>
 T.loop [aM] [vI 0] fun o =>
 bq o m
 (aR o m l fun p =>
 T.af ((p.add (aH o 10)).add 7) (yL 64) fun q r s t =>
 bM 46 [.pointer a,vI b,.agg #[.slice q r s,aC t]] false [(true,(yL 64))] fun u v w x =>
 bM 76 [.agg #[.slice u v w,aC x],.slice f g h] false [(true,(yL 64))] fun y z A B =>
 aR o m l fun C =>
 T.ax ((C.add (aH o 10)).add 7) [.slice y z A,aC B] <|
 T.again 0 [aY o])
 (T.ret (.slice l m n))
def iy (a:Xac) (b:Int) (c:Xac) (d e:Nat) (f:Xac) (g h:Nat):bS Xaz [] Tryz.f48 [.pointer a,vI b,.slice c d e,.slice f g h]=fe a b c d e f g h:=av
def jE (a:Xac) (b c:Nat) (d:Int) (e:Xaa):T :=
 aR d b a fun f =>
 T.af (f.add (aH d 4)) (yU 55 116) fun g h i j k l m n o p q r =>
 bM 98 [.agg #[.slice g h i,.slice j k l,.slice m n o,.slice p q r]] false [(false,[.slice 9])] fun s t u =>
 aT 52 [.slice s t u,.string e] fun v =>
 cond v
 (T.ret (vI d))
 (T.loop [aM,aM] [vI 0,vI 0] fun w x =>
 bq x b
 (aR x b a fun y =>
 T.af ((y.add (aH x 4)).add 3) [.slice 9] fun z A B =>
 aT 52 [.slice z A B,.string e] fun C =>
 cond C
 (T.ret (vI x))
 (T.again 0 [vI w,aY x]))
 (T.ret (vI (-1))))
def nW (a:Xac) (b c:Nat) (d:Int) (e:Xaa):bS Xaz [] Tryz.f72 [.slice a b c,vI d,.string e]=jE a b c d e:=av
def gK (a:Xac) (b c:Nat) (d:Int):T :=
 aR d b a fun e =>
 T.af (e.add (aH d 4)) (yU 55 116) fun f g h i j k l m n o p q =>
 T.new [aZ,aZ,aZ,aZ] 70 fun r =>
 T.ax r [.slice f g h,.slice i j k,.slice l m n,.slice o p q] <|
 T.af r [.slice 55] fun s t u =>
 T.af (r.add 1) [.slice 55] fun v w x =>
 bd (Instr.buildSlice 46 0 #[]) fun y z A =>
 T.bh [((r.add 1),[.slice v w x]),(r,[.slice s t u])] <|
 bd (Builtin.append_ #[46,46] 46 #[.slice y z A,.slice s t u]) fun B C D =>
 T.bh [((r.add 1),[.slice v w x])] <|
 bd (Builtin.append_ #[46,46] 46 #[.slice B C D,.slice v w x]) fun E F G =>
 T.bh [(r,[.slice s t u])] <|
 T.loop [(false,[.string]),aM] [bZ,vI 0] fun H I =>
 bq I F
 (aR I F E fun J =>
 T.af ((J.add (aH I 10)).add 7) (yL 64) fun K L M N =>
 eE 99 [.slice a b c,vI d,.agg #[.slice K L M,aC N]] fun O =>
 cond (!((ByteArray.toList O)==[]))
 (T.ret (.string O))
 (T.again 0 [.string H,aY I]))
 (T.loop [(false,[.string]),aM] [.string H,vI 0] fun J K =>
 T.af (r.add 2) [.slice 116] fun L M N =>
 bq K M
 (T.af (r.add 2) [.slice 116] fun O P Q =>
 aR K P O fun R =>
 T.af ((R.add (aH K 3)).add 1) (yL 64) fun S U V W =>
 eE 99 [.slice a b c,vI d,.agg #[.slice S U V,aC W]] fun X =>
 cond (!((ByteArray.toList X)==[]))
 (T.ret (.string X))
 (T.again 1 [.string J,aY K]))
 (T.ret (bZ)))
def kS (a:Xac) (b c:Nat) (d:Int):bS Xaz [] Tryz.f71 [.slice a b c,vI d]=gK a b c d:=av
def iW (a:Int):T :=
 T.loop [aM,(false,[.string])] [vI a,bZ] fun b c =>
 cond (decide (b>0))
 (T.need ((10:Int)≠0) <|
 bd (Instr.buildSlice 204 1 #[(0,.int .u8 (IntKind.wrap .u8 (bn (48+(Int.tmod b 10)))))]) fun d e f =>
 bR (convert 204 9 (.slice d e f)) false [(false,[.string])] fun g =>
 T.need ((((g.size+c.size):Nat):Int)<=9223372036854775807) <|
 T.need ((10:Int)≠0) <|
 T.again 0 [vI (bn (Int.tdiv b 10)),.string (g++c)])
 (cond ((ByteArray.toList c)==[])
 (T.need ((10:Int)≠0) <|
 bd (Instr.buildSlice 204 1 #[(0,.int .u8 (IntKind.wrap .u8 (bn (48+(Int.tmod b 10)))))]) fun d e f =>
 bR (convert 204 9 (.slice d e f)) false [(false,[.string])] fun g =>
 T.need ((((g.size+c.size):Nat):Int)<=9223372036854775807) <|
 T.need ((10:Int)≠0) <|
 T.again 0 [vI (bn (Int.tdiv b 10)),.string (g++c)])
 (T.ret (.string c)))
def nt (a:Int):bS Xaz [] Tryz.f73 [vI a]=iW a:=av
def jA (a:Xac) (b c:Nat) (d:Int) (e:Xac) (f g:Nat) (h:Int):T :=
 T.new [.slice e f g,aC h] 53 fun i =>
 T.loop [(false,[.string]),aM] [bZ,vI 0] fun j k =>
 T.af i [.slice 64] fun l m n =>
 bq k m
 (T.af i [.slice 64] fun o p q =>
 aR k p o fun r =>
 T.af (r.add (aH k 2)) [.string] fun s =>
 cE 72 [.slice a b c,vI d,.string s] fun t =>
 cond (decide (t<0))
 (T.af i [.slice 64] fun u v w =>
 aR k v u fun x =>
 T.af (x.add (aH k 2)) [.string] fun y =>
 T.ret (.string y))
 (T.again 0 [.string j,aY k]))
 (T.ret (bZ))
def nY (a:Xac) (b c:Nat) (d:Int) (e:Xac) (f g:Nat) (h:Int):bS Xaz [] Tryz.f99 [.slice a b c,vI d,.agg #[.slice e f g,.int .u32 h]]=jA a b c d e f g h:=av
end Go.Sx
