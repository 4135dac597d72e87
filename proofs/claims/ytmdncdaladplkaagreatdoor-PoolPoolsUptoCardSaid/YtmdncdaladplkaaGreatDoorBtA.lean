/- Trees of functions. No condition. -/
import Derived.Test.YtmdncdaladplkaaGreatDoorSxF
import Derived.Test.YtmdncdaladplkaaGreatDoorProg
import Derived.KernelRfl
set_option linter.all false
set_option maxRecDepth 100000
set_option maxHeartbeats 4000000
namespace Go.Sx
open Go.Proofs
def tV (a:Xaa) (b:Int):T :=
 T.call Xaz 139 [.string a,.int .u8 b] false [(false,[.int .i64])] fun c =>
 T.ret (vI c)
def qo (a:Xaa) (b:Int):bS Xaz [] Tryz.f113 [.string a,.int .u8 b]=tV a b:=av
def iX (a:Xaa) (b:Int):T :=
 T.ef Xaz (Sx.JE 157 #[.string a,.int .u8 b]) false [(false,[.int .i64])] fun c =>
 T.ret (vI c)
def ig (a:Xaa) (b:Int):bS Xaz [] Tryz.f139 [.string a,.int .u8 b]=iX a b:=av
def MV (a b:Xaa):T :=
 T.loop [(false,[.int .i64])] [vI 0] fun c =>
 cond (decide (c<(a.size:Int)))
 (T.need ((0<=c)/\(c<(a.size:Int))) <|
 T.call Xaz 113 [.string b,.int .u8 (db a c)] false [(false,[.int .i64])] fun d =>
 cond (decide (d>=0))
 (T.again 0 [vI (IntKind.wrap .i64 (c+1))])
 (T.ret (vI c)))
 (T.ret (vI c))
def Ef (a b:Xaa):bS Xaz [] Tryz.f84 [.string a,.string b]=MV a b:=av
def rL (a:Xaa):T :=
 cond ((a.size:Int) != 2)
 (bj #[vI 0,.bool false,.bool false])
 (T.need (lr 1 a.size) <|
 T.need (lr 0 a.size) <|
 cond ((db a 0)==114)
 (cond (decide ((bn ((bn (db a 1))-48))>=0))
 (cond (decide ((bn ((bn (db a 1))-48))<8))
 (bj #[vI (bn ((bn (db a 1))-48)),.bool false,.bool true])
 (T.need (lr 0 a.size) <|
 cond ((db a 0)==122)
 (cond (decide ((bn ((bn (db a 1))-48))>=0))
 (cond (decide ((bn ((bn (db a 1))-48))<4))
 (bj #[vI (bn ((bn (db a 1))-48)),.bool true,.bool true])
 (bj #[vI 0,.bool false,.bool false]))
 (bj #[vI 0,.bool false,.bool false]))
 (bj #[vI 0,.bool false,.bool false])))
 (T.need (lr 0 a.size) <|
 cond ((db a 0)==122)
 (cond (decide ((bn ((bn (db a 1))-48))>=0))
 (cond (decide ((bn ((bn (db a 1))-48))<4))
 (bj #[vI (bn ((bn (db a 1))-48)),.bool true,.bool true])
 (bj #[vI 0,.bool false,.bool false]))
 (bj #[vI 0,.bool false,.bool false]))
 (bj #[vI 0,.bool false,.bool false])))
 (T.need (lr 0 a.size) <|
 cond ((db a 0)==122)
 (cond (decide ((bn ((bn (db a 1))-48))>=0))
 (cond (decide ((bn ((bn (db a 1))-48))<4))
 (bj #[vI (bn ((bn (db a 1))-48)),.bool true,.bool true])
 (bj #[vI 0,.bool false,.bool false]))
 (bj #[vI 0,.bool false,.bool false]))
 (bj #[vI 0,.bool false,.bool false])))
def wq (a:Xaa):bS Xaz [] Tryz.f83 [.string a]=rL a:=av
def zf (a:Xaa):T :=
 bM 83 [.string a] true [aM,ct,ct] fun b c d =>
 cond (!((ByteArray.toList a)==[]))
 (cond (decide ((a.size:Int)<=32))
 (cE 84 [.string a,.string ⟨#[97,98,99,100,101,102,103,104,105,106,107,108,109,110,111,112,113,114,115,116,117,118,119,120,121,122,65,66,67,68,69,70,71,72,73,74,75,76,77,78,79,80,81,82,83,84,85,86,87,88,89,90,95]⟩] fun e =>
 cond (decide (e>0))
 (cE 84 [.string a,.string ⟨#[97,98,99,100,101,102,103,104,105,106,107,108,109,110,111,112,113,114,115,116,117,118,119,120,121,122,65,66,67,68,69,70,71,72,73,74,75,76,77,78,79,80,81,82,83,84,85,86,87,88,89,90,95,48,49,50,51,52,53,54,55,56,57]⟩] fun f =>
 cond (f==(a.size:Int))
 (T.ret (.bool (!d)))
 bH)
 bH)
 bH)
 bH
def A7 (a:Xaa):bS Xaz [] Tryz.f55 [.string a]=zf a:=av
def iO (a:Xaa):T :=
 cond ((a.size:Int) != 2)
 (bj #[vI 0,.bool false,.bool false])
 (T.need (lr 1 a.size) <|
 T.need (lr 0 a.size) <|
 cond ((db a 0)==114)
 (cond (decide ((bn ((bn (db a 1))-48))>=0))
 (cond (decide ((bn ((bn (db a 1))-48))<=7))
 (bj #[vI (bn ((bn (db a 1))-48)),.bool false,.bool true])
 (T.need (lr 0 a.size) <|
 cond ((db a 0)==122)
 (cond (decide ((bn ((bn (db a 1))-48))>=0))
 (cond (decide ((bn ((bn (db a 1))-48))<=3))
 (bj #[vI (bn ((bn (db a 1))-48)),.bool true,.bool true])
 (bj #[vI 0,.bool false,.bool false]))
 (bj #[vI 0,.bool false,.bool false]))
 (bj #[vI 0,.bool false,.bool false])))
 (T.need (lr 0 a.size) <|
 cond ((db a 0)==122)
 (cond (decide ((bn ((bn (db a 1))-48))>=0))
 (cond (decide ((bn ((bn (db a 1))-48))<=3))
 (bj #[vI (bn ((bn (db a 1))-48)),.bool true,.bool true])
 (bj #[vI 0,.bool false,.bool false]))
 (bj #[vI 0,.bool false,.bool false]))
 (bj #[vI 0,.bool false,.bool false])))
 (T.need (lr 0 a.size) <|
 cond ((db a 0)==122)
 (cond (decide ((bn ((bn (db a 1))-48))>=0))
 (cond (decide ((bn ((bn (db a 1))-48))<=3))
 (bj #[vI (bn ((bn (db a 1))-48)),.bool true,.bool true])
 (bj #[vI 0,.bool false,.bool false]))
 (bj #[vI 0,.bool false,.bool false]))
 (bj #[vI 0,.bool false,.bool false])))
def mW (a:Xaa):bS Xaz [] Tryz.f107 [.string a]=iO a:=av
def kh (a:Xaa):T :=
 cond (decide ((a.size:Int)<1))
 bH
 (cond (decide ((a.size:Int)>32))
 bH
 (T.need (lr 0 a.size) <|
 aT 105 [.int .u8 (db a 0)] fun b =>
 cond (!b)
 bH
 (T.loop [ct,aM] [.bool false,vI 0] fun c d =>
 cond (decide (d<(a.size:Int)))
 (T.need (fI d a.size) <|
 aT 105 [.int .u8 (db a d)] fun e =>
 cond (!e)
 (T.need (fI d a.size) <|
 aT 106 [.int .u8 (db a d)] fun f =>
 cond (!f)
 bH
 (T.again 0 [.bool c,aY d]))
 (T.again 0 [.bool c,aY d]))
 (bM 107 [.string a] true [aM,ct,ct] fun e f g =>
 T.ret (.bool (!g))))))
def pN (a:Xaa):bS Xaz [] Tryz.f78 [.string a]=kh a:=av
def ju (a:Int):T :=
 cond (decide (a>=97))
 (cond (decide (a<=122))
 dX
 (cond (decide (a>=65))
 (cond (decide (a<=90))
 dX
 (T.ret (.bool (a==95))))
 (T.ret (.bool (a==95)))))
 (cond (decide (a>=65))
 (cond (decide (a<=90))
 dX
 (T.ret (.bool (a==95))))
 (T.ret (.bool (a==95))))
def ow (a:Int):bS Xaz [] Tryz.f105 [.int .u8 a]=ju a:=av
def ko (a:Int):T :=
 cond (decide (a>=48))
 (T.ret (.bool (decide (a<=57))))
 bH
def oX (a:Int):bS Xaz [] Tryz.f106 [.int .u8 a]=ko a:=av
def zd (a:Option Nat) (b:Int):T :=
 T.new [aZ,aC 0] 53 fun c =>
 T.new [aZ,aC 0] 53 fun d =>
 T.ax d [aZ,aC b] <|
 bM 90 [.map a] false [(false,[.func #[154] #[] false])] fun (e:Xab) =>
 bM 89 [e] false [(false,[.slice 9])] fun f g h =>
 T.loop [aM] [vI 0] fun i =>
 bq i g
 (aR i g f fun j =>
 T.af (j.add (aH i 1)) [.string] fun k =>
 bR (Instr.lookup 196 (.map a) (.string k) false) false [(false,[.int .u32])] fun l =>
 cond (l != 0)
 (T.af d [.slice 64] fun m n o =>
 bR (Instr.lookup 196 (.map a) (.string k) false) false [(false,[.int .u32])] fun p =>
 bd (Instr.buildSlice 50 1 #[(0,.agg #[.string k,aC p])]) fun q r s =>
 bd (Builtin.append_ #[50,50] 50 #[.slice m n o,.slice q r s]) fun t u v =>
 T.ax d [.slice t u v] <|
 T.again 0 [aY i])
 (T.again 0 [aY i]))
 (T.af d (yL 64) fun j k l m =>
 T.ax c [.slice j k l,aC m] <|
 T.af c (yL 64) fun n o p q =>
 T.ret (.agg #[.slice n o p,aC q]))
def AN (a:Option Nat) (b:Int):bS Xaz [] Tryz.f91 [.map a,.int .u32 b]=zd a b:=av
def Br (a:Xac) (b c:Nat) (d:Int) (e:Xac) (f g:Nat) (h:Int):T :=
 T.new [.slice a b c,aC d] 53 fun i =>
 T.new [.slice e f g,aC h] 53 fun j =>
 T.new [aZ,aC 0] 53 fun k =>
 bR (Instr.makeMap 196 none) false [(false,[.map 0 0])] fun l =>
 T.af i [.slice 64] fun m n o =>
 T.af j [.slice 64] fun p q r =>
 bd (Instr.buildSlice 59 2 #[(0,.slice m n o),(1,.slice p q r)]) fun s t u =>
 T.loop [aM] [vI 0] fun v =>
 bq v t
 (aR v t s fun w =>
 T.af (w.add (aH v 1)) [.slice 64] fun x y z =>
 T.loop [aM] [vI 0] fun A =>
 bq A y
 (aR A y x fun B =>
 T.af (B.add (aH A 2)) [.string,.int .u32] fun C D =>
 T.new [bZ,aC 0] 64 fun E =>
 T.ax E [.string C,aC D] <|
 T.af E [.string] fun F =>
 bR (Instr.lookup 196 (.map l) (.string F) false) false [(false,[.int .u32])] fun G =>
 T.af (E.add 1) [.int .u32] fun H =>
 T.dZ Xaz (Instr.mapUpdate 196 (.map l) (.string F) (aC (IntKind.wrap .u32 (G+H)))) <|
 T.again 1 [aY A])
 (T.again 0 [aY v]))
 (T.af (i.add 1) [.int .u32] fun w =>
 T.af (j.add 1) [.int .u32] fun x =>
 bM 91 [.map l,aC (IntKind.wrap .u32 (w+x))] false [(true,(yL 64))] fun y z A B =>
 T.ax k [.slice y z A,aC B] <|
 T.af k (yL 64) fun C D E F =>
 T.ret (.agg #[.slice C D E,aC F]))
def Cj (a:Xac) (b c:Nat) (d:Int) (e:Xac) (f g:Nat) (h:Int):bS Xaz [] Tryz.f66 [.agg #[.slice a b c,.int .u32 d],.agg #[.slice e f g,.int .u32 h]]=Br a b c d e f g h:=av
def kx (a:Xac) (b c:Nat) (d:Int):T :=
 T.new [.slice a b c,aC d] 53 fun e =>
 T.loop [ct,aM] [.bool false,vI 0] fun f g =>
 T.af e [.slice 64] fun h i j =>
 bq g i
 (T.af e [.slice 64] fun k l m =>
 aR g l k fun n =>
 T.af (n.add (aH g 2)) [.string] fun o =>
 aT 78 [.string o] fun p =>
 T.bh [(e,[.slice k l m])] <|
 cond (!p)
 bH
 (T.af e [.slice 64] fun q r s =>
 aR g r q fun t =>
 T.af ((t.add (aH g 2)).add 1) [.int .u32] fun u =>
 cond (u==0)
 bH
 (cond (decide (g>0))
 (T.af e [.slice 64] fun v w x =>
 aR g w v fun y =>
 T.af (y.add (aH g 2)) [.string] fun z =>
 T.af e [.slice 64] fun A B C =>
 T.need ((0<=(bn (g-1)))/\((bn (g-1))<(B:Int))) <|
 T.bi A fun D =>
 T.af (D.add ((Int.toNat (bn (g-1)))*2)) [.string] fun E =>
 cond ((Op.bytesLess (ByteArray.toList z) (ByteArray.toList E)) || ((ByteArray.toList z)==(ByteArray.toList E)))
 bH
 (T.again 0 [.bool f,aY g]))
 (T.again 0 [.bool f,aY g]))))
 dX
def pn (a:Xac) (b c:Nat) (d:Int):bS Xaz [] Tryz.f97 [.agg #[.slice a b c,.int .u32 d]]=kx a b c d:=av
def vU (a:Xac) (b c:Nat) (d:Int):T :=
 T.new [.slice a b c,aC d] 53 fun e =>
 T.af e [.slice 64] fun f g h =>
 T.loop [ct,aM] [.bool false,vI 0] fun i j =>
 bq j g
 (aR j g f fun k =>
 T.af (k.add (aH j 2)) [.string,.int .u32] fun l m =>
 T.new [bZ,aC 0] 64 fun n =>
 T.ax n [.string l,aC m] <|
 T.af (n.add 1) [.int .u32] fun o =>
 cond (o==0)
 bH
 (T.af n [.string] fun p =>
 aT 55 [.string p] fun q =>
 T.bh [((n.add 1),[aC o])] <|
 cond (!q)
 bH
 (cond (decide (j>0))
 (T.af n [.string] fun r =>
 T.af e [.slice 64] fun s t u =>
 T.need ((0<=(bn (j-1)))/\((bn (j-1))<(t:Int))) <|
 T.bi s fun v =>
 T.af (v.add ((Int.toNat (bn (j-1)))*2)) [.string] fun w =>
 cond ((Op.bytesLess (ByteArray.toList r) (ByteArray.toList w)) || ((ByteArray.toList r)==(ByteArray.toList w)))
 bH
 (T.again 0 [.bool i,aY j]))
 (T.again 0 [.bool i,aY j]))))
 dX
def zG (a:Xac) (b c:Nat) (d:Int):bS Xaz [] Tryz.f56 [.agg #[.slice a b c,.int .u32 d]]=vU a b c d:=av
def yQ (a:Xac) (b c:Nat) (d:Int) (e:Xac) (f g:Nat) (h:Int):T :=
 T.new [.slice a b c,aC d] 53 fun i =>
 T.new [.slice e f g,aC h] 53 fun j =>
 T.af (i.add 1) [.int .u32] fun k =>
 T.af (j.add 1) [.int .u32] fun l =>
 cond (k==l)
 (T.af i [.slice 64] fun m n o =>
 T.af j [.slice 64] fun p q r =>
 aT 112 [.slice m n o,.slice p q r] fun s =>
 T.ret (.bool s))
 bH
def Bk (a:Xac) (b c:Nat) (d:Int) (e:Xac) (f g:Nat) (h:Int):bS Xaz [] Tryz.f82 [.agg #[.slice a b c,.int .u32 d],.agg #[.slice e f g,.int .u32 h]]=yQ a b c d e f g h:=av
def kB (a:Xac) (b c:Nat) (d e:Int):T :=
 T.new [.slice a b c,aC d] 53 fun f =>
 T.new [aZ,aC 0] 53 fun g =>
 T.af (f.add 1) [.int .u32] fun h =>
 T.new [aZ,aC 0] 53 fun i =>
 T.ax i [aZ,aC (IntKind.wrap .u32 (h*e))] <|
 T.loop [aM] [vI 0] fun j =>
 T.af f [.slice 64] fun k l m =>
 bq j l
 (T.af f [.slice 64] fun n o p =>
 aR j o n fun q =>
 T.af ((q.add (aH j 2)).add 1) [.int .u32] fun r =>
 cond ((IntKind.wrap .u32 (r*e)) != 0)
 (T.af i [.slice 64] fun s t u =>
 T.af f [.slice 64] fun v w x =>
 aR j w v fun y =>
 T.af (y.add (aH j 2)) [.string] fun z =>
 bd (Instr.buildSlice 50 1 #[(0,.agg #[.string z,aC (IntKind.wrap .u32 (r*e))])]) fun A B C =>
 T.bh [((y.add (aH j 2)),[.string z]),(f,[.slice v w x]),(i,[.slice s t u])] <|
 bd (Builtin.append_ #[50,50] 50 #[.slice s t u,.slice A B C]) fun D E F =>
 T.bh [((y.add (aH j 2)),[.string z]),(f,[.slice v w x])] <|
 T.ax i [.slice D E F] <|
 T.again 0 [aY j])
 (T.again 0 [aY j]))
 (T.af i (yL 64) fun n o p q =>
 T.ax g [.slice n o p,aC q] <|
 T.af g (yL 64) fun r s t u =>
 T.ret (.agg #[.slice r s t,aC u]))
def oY (a:Xac) (b c:Nat) (d e:Int):bS Xaz [] Tryz.f102 [.agg #[.slice a b c,.int .u32 d],.int .u32 e]=kB a b c d e:=av
def eC (a:Xac) (b c:Nat) (d:Xac) (e f:Nat):T :=
 cond ((b:Int) != (e:Int))
 bH
 (T.loop [ct,aM] [.bool false,vI 0] fun g h =>
 bq h b
 (aR h b a fun i =>
 T.af (i.add (aH h 2)) [.string,.int .u32] fun j k =>
 aR h e d fun l =>
 T.af (l.add (aH h 2)) [.string,.int .u32] fun m n =>
 eZ (Sx.lX (BinOp.neq) 64 (Operand.tmp 19) (Operand.tmp 23) (.agg #[.string j,aC k]) (.agg #[.string m,aC n])) fun o =>
 cond o
 bH
 (T.again 0 [.bool g,aY h]))
 dX)
def gf (a:Xac) (b c:Nat) (d:Xac) (e f:Nat):bS Xaz [] Tryz.f112 [.slice a b c,.slice d e f]=eC a b c d e f:=av
def ze (a:Xac) (b c:Nat) (d:Int):T :=
 T.new [.slice a b c,aC d] 53 fun e =>
 T.af e [.slice 64] fun f g h =>
 T.loop [cR,aM] [aZ,vI 0] fun i j k l =>
 bq l g
 (aR l g f fun m =>
 T.af (m.add (aH l 2)) [.string,.int .u32] fun n o =>
 T.new [bZ,aC 0] 64 fun p =>
 T.ax p [.string n,aC o] <|
 T.af (p.add 1) [.int .u32] fun q =>
 cond (q==1)
 (T.af p [.string] fun r =>
 bd (Instr.buildSlice 68 1 #[(0,.string r)]) fun s t u =>
 bd (Builtin.append_ #[68,68] 68 #[.slice i j k,.slice s t u]) fun v w x =>
 T.again 0 [.slice v w x,aY l])
 (T.af (p.add 1) [.int .u32] fun r =>
 T.af p [.string] fun s =>
 eE 68 [.int .u64 (IntKind.wrap .u64 r),vI 10] fun t =>
 T.bh [(p,[.string s]),((p.add 1),[aC r])] <|
 T.need ((((t.size+1):Nat):Int)<=9223372036854775807) <|
 T.need (((((ByteArray.size (t++⟨#[42]⟩))+s.size):Nat):Int)<=9223372036854775807) <|
 bd (Instr.buildSlice 68 1 #[(0,.string ((t++⟨#[42]⟩)++s))]) fun u v w =>
 T.bh [(p,[.string s]),((p.add 1),[aC r])] <|
 bd (Builtin.append_ #[68,68] 68 #[.slice i j k,.slice u v w]) fun x y z =>
 T.bh [(p,[.string s]),((p.add 1),[aC r])] <|
 T.again 0 [.slice x y z,aY l]))
 (T.af (e.add 1) [.int .u32] fun m =>
 cond (m != 0)
 (T.af (e.add 1) [.int .u32] fun n =>
 eE 68 [.int .u64 (IntKind.wrap .u64 n),vI 10] fun o =>
 bd (Instr.buildSlice 68 1 #[(0,.string o)]) fun p q r =>
 bd (Builtin.append_ #[68,68] 68 #[.slice i j k,.slice p q r]) fun s t u =>
 eE 69 [.slice s t u,.string ⟨#[43]⟩] fun v =>
 T.ret (.string v))
 (cond ((j:Int)==0)
 (T.af (e.add 1) [.int .u32] fun n =>
 eE 68 [.int .u64 (IntKind.wrap .u64 n),vI 10] fun o =>
 bd (Instr.buildSlice 68 1 #[(0,.string o)]) fun p q r =>
 bd (Builtin.append_ #[68,68] 68 #[.slice i j k,.slice p q r]) fun s t u =>
 eE 69 [.slice s t u,.string ⟨#[43]⟩] fun v =>
 T.ret (.string v))
 (eE 69 [.slice i j k,.string ⟨#[43]⟩] fun n =>
 T.ret (.string n))))
def B3 (a:Xac) (b c:Nat) (d:Int):bS Xaz [] Tryz.f42 [.agg #[.slice a b c,.int .u32 d]]=ze a b c d:=av
def kL (a b:Int):T :=
 eE 92 [.int .u64 a,vI b] fun c =>
 T.ret (.string c)
def pC (a b:Int):bS Xaz [] Tryz.f68 [.int .u64 a,vI b]=kL a b:=av
def fz (a b:Int):T :=
 cond (b==10)
 (cond (decide (a<100))
 (eE 118 [vI (bn a)] fun c =>
 T.ret (.string c))
 (T.new [.int .u8 0,.int .u8 0,.int .u8 0,.int .u8 0,.int .u8 0,.int .u8 0,.int .u8 0,.int .u8 0,.int .u8 0,.int .u8 0,.int .u8 0,.int .u8 0,.int .u8 0,.int .u8 0,.int .u8 0,.int .u8 0,.int .u8 0,.int .u8 0,.int .u8 0,.int .u8 0,.int .u8 0,.int .u8 0,.int .u8 0,.int .u8 0] 234 fun c =>
 cE 119 [.int .u64 a] fun d =>
 bd (Instr.sliceAt 234 (.pointer (some c)) none (some (vI d)) none) fun e f g =>
 bM 120 [.slice e f g,.int .u64 a] true [] <| bd (Instr.sliceAt 234 (.pointer (some c)) none (some (vI d)) none) fun h i j =>
 bR (convert 204 9 (.slice h i j)) false [(false,[.string])] fun k =>
 T.ret (.string k)))
 (bM 121 [aZ,.int .u64 a,vI b,.bool false,.bool false] true [(false,[.slice 5]),(false,[.string])] fun c d e f =>
 T.ret (.string f))
def jf (a b:Int):bS Xaz [] Tryz.f92 [.int .u64 a,vI b]=fz a b:=av
def mJ (a:Xac) (b c:Nat) (d:Int) (e:Xac) (f g:Nat) (h:Int):T :=
 T.new [.slice a b c,aC d] 53 fun i =>
 T.new [.slice e f g,aC h] 53 fun j =>
 T.new [aZ,aC 0] 53 fun k =>
 T.af (i.add 1) [.int .u32] fun l =>
 T.af (j.add 1) [.int .u32] fun m =>
 T.new [aZ,aC 0] 53 fun n =>
 T.ax n [aZ,aC (IntKind.wrap .u32 (l+m))] <|
 T.loop [aM,aM] [vI 0,vI 0] fun o p =>
 T.join [ct]
 (T.af i [.slice 64] fun q r s =>
 bq o r
 (T.again 1 [.bool true])
 (T.af j [.slice 64] fun t u v =>
 T.again 1 [.bool (decide (p<(u:Int)))])) fun q =>
 cond q
 (T.join [ct]
 (T.af j [.slice 64] fun r s t =>
 cond (p==(s:Int))
 (T.again 1 [.bool true])
 (T.af i [.slice 64] fun u v w =>
 bq o v
 (T.af i [.slice 64] fun x y z =>
 aR o y x fun A =>
 T.af (A.add (aH o 2)) [.string] fun B =>
 T.af j [.slice 64] fun C D E =>
 aR p D C fun F =>
 T.af (F.add (aH p 2)) [.string] fun G =>
 T.again 1 [.bool (Op.bytesLess (ByteArray.toList B) (ByteArray.toList G))])
 (T.again 1 [.bool false]))) fun r =>
 cond r
 (T.af n [.slice 64] fun s t u =>
 T.af i [.slice 64] fun v w x =>
 aR o w v fun y =>
 T.af (y.add (aH o 2)) [.string,.int .u32] fun z A =>
 bd (Instr.buildSlice 50 1 #[(0,.agg #[.string z,aC A])]) fun B C D =>
 T.bh [(i,[.slice v w x]),(n,[.slice s t u])] <|
 bd (Builtin.append_ #[50,50] 50 #[.slice s t u,.slice B C D]) fun E F G =>
 T.bh [((y.add (aH o 2)),[.string z,aC A]),(i,[.slice v w x])] <|
 T.ax n [.slice E F G] <|
 T.again 0 [aY o,vI p])
 (T.join [ct]
 (T.af i [.slice 64] fun s t u =>
 cond (o==(t:Int))
 (T.again 1 [.bool true])
 (T.af j [.slice 64] fun v w x =>
 aR p w v fun y =>
 T.af (y.add (aH p 2)) [.string] fun z =>
 T.af i [.slice 64] fun A B C =>
 aR o B A fun D =>
 T.af (D.add (aH o 2)) [.string] fun E =>
 T.again 1 [.bool (Op.bytesLess (ByteArray.toList z) (ByteArray.toList E))])) fun s =>
 cond s
 (T.af n [.slice 64] fun t u v =>
 T.af j [.slice 64] fun w x y =>
 aR p x w fun z =>
 T.af (z.add (aH p 2)) [.string,.int .u32] fun A B =>
 bd (Instr.buildSlice 50 1 #[(0,.agg #[.string A,aC B])]) fun C D E =>
 T.bh [(j,[.slice w x y]),(n,[.slice t u v])] <|
 bd (Builtin.append_ #[50,50] 50 #[.slice t u v,.slice C D E]) fun F G H =>
 T.bh [((z.add (aH p 2)),[.string A,aC B]),(j,[.slice w x y])] <|
 T.ax n [.slice F G H] <|
 T.again 0 [vI o,aY p])
 (T.af i [.slice 64] fun t u v =>
 aR o u t fun w =>
 T.af ((w.add (aH o 2)).add 1) [.int .u32] fun x =>
 T.af j [.slice 64] fun y z A =>
 aR p z y fun B =>
 T.af ((B.add (aH p 2)).add 1) [.int .u32] fun C =>
 T.join []
 (cond ((IntKind.wrap .u32 (x+C)) != 0)
 (T.af n [.slice 64] fun D E F =>
 T.af i [.slice 64] fun G H I =>
 aR o H G fun J =>
 T.af (J.add (aH o 2)) [.string] fun K =>
 bd (Instr.buildSlice 50 1 #[(0,.agg #[.string K,aC (IntKind.wrap .u32 (x+C))])]) fun L M N =>
 T.bh [((J.add (aH o 2)),[.string K]),(i,[.slice G H I]),(n,[.slice D E F])] <|
 bd (Builtin.append_ #[50,50] 50 #[.slice D E F,.slice L M N]) fun O P Q =>
 T.bh [((J.add (aH o 2)),[.string K]),(i,[.slice G H I])] <|
 T.ax n [.slice O P Q] <|
 T.again 1 [])
 (T.again 1 [])) <| T.again 0 [aY o,aY p])))
 (T.af n (yL 64) fun r s t u =>
 T.ax k [.slice r s t,aC u] <|
 T.af k (yL 64) fun v w x y =>
 T.ret (.agg #[.slice v w x,aC y]))
def rn (a:Xac) (b c:Nat) (d:Int) (e:Xac) (f g:Nat) (h:Int):bS Xaz [4,5,8,1014] Tryz.f74 [.agg #[.slice a b c,.int .u32 d],.agg #[.slice e f g,.int .u32 h]]=mJ a b c d e f g h:=av
end Go.Sx
