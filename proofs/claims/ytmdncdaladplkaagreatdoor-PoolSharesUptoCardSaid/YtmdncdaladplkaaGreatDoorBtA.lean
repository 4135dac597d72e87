/- Trees of functions. No condition. -/
import Derived.Test.YtmdncdaladplkaaGreatDoorSxF
import Derived.Test.YtmdncdaladplkaaGreatDoorProg
import Derived.KernelRfl
set_option linter.all false
set_option maxRecDepth 100000
set_option maxHeartbeats 4000000
namespace Go.Sx
open Go.Proofs
def tY (a:Xaa) (b:Int):T :=
 T.call Xaz 139 [.string a,.int .u8 b] false [(false,[.int .i64])] fun c =>
 T.ret (vI c)
def qn (a:Xaa) (b:Int):bZ Xaz [] Tryz.f113 [.string a,.int .u8 b]=tY a b:=ax
def jg (a:Xaa) (b:Int):T :=
 T.eH Xaz (Sx.JJ 157 #[.string a,.int .u8 b]) false [(false,[.int .i64])] fun c =>
 T.ret (vI c)
def iB (a:Xaa) (b:Int):bZ Xaz [] Tryz.f139 [.string a,.int .u8 b]=jg a b:=ax
def M4 (a b:Xaa):T :=
 T.loop [(false,[.int .i64])] [vI 0] fun c =>
 cond (decide (c<(a.size:Int)))
 (T.need ((0<=c)/\(c<(a.size:Int))) <|
 T.call Xaz 113 [.string b,.int .u8 (df a c)] false [(false,[.int .i64])] fun d =>
 cond (decide (d>=0))
 (T.again 0 [vI (IntKind.wrap .i64 (c+1))])
 (T.ret (vI c)))
 (T.ret (vI c))
def Er (a b:Xaa):bZ Xaz [] Tryz.f84 [.string a,.string b]=M4 a b:=ax
def rO (a:Xaa):T :=
 cond ((a.size:Int) != 2)
 (bG #[vI 0,.bool false,.bool false])
 (T.need (lh 1 a.size) <|
 T.need (lh 0 a.size) <|
 cond ((df a 0)==114)
 (cond (decide ((bq ((bq (df a 1))-48))>=0))
 (cond (decide ((bq ((bq (df a 1))-48))<8))
 (bG #[vI (bq ((bq (df a 1))-48)),.bool false,.bool true])
 (T.need (lh 0 a.size) <|
 cond ((df a 0)==122)
 (cond (decide ((bq ((bq (df a 1))-48))>=0))
 (cond (decide ((bq ((bq (df a 1))-48))<4))
 (bG #[vI (bq ((bq (df a 1))-48)),.bool true,.bool true])
 (bG #[vI 0,.bool false,.bool false]))
 (bG #[vI 0,.bool false,.bool false]))
 (bG #[vI 0,.bool false,.bool false])))
 (T.need (lh 0 a.size) <|
 cond ((df a 0)==122)
 (cond (decide ((bq ((bq (df a 1))-48))>=0))
 (cond (decide ((bq ((bq (df a 1))-48))<4))
 (bG #[vI (bq ((bq (df a 1))-48)),.bool true,.bool true])
 (bG #[vI 0,.bool false,.bool false]))
 (bG #[vI 0,.bool false,.bool false]))
 (bG #[vI 0,.bool false,.bool false])))
 (T.need (lh 0 a.size) <|
 cond ((df a 0)==122)
 (cond (decide ((bq ((bq (df a 1))-48))>=0))
 (cond (decide ((bq ((bq (df a 1))-48))<4))
 (bG #[vI (bq ((bq (df a 1))-48)),.bool true,.bool true])
 (bG #[vI 0,.bool false,.bool false]))
 (bG #[vI 0,.bool false,.bool false]))
 (bG #[vI 0,.bool false,.bool false])))
def wz (a:Xaa):bZ Xaz [] Tryz.f83 [.string a]=rO a:=ax
def zz (a:Xaa):T :=
 bP 83 [.string a] true [aQ,cn,cn] fun b c d =>
 cond (!((ByteArray.toList a)==[]))
 (cond (decide ((a.size:Int)<=32))
 (cQ 84 [.string a,.string ⟨#[97,98,99,100,101,102,103,104,105,106,107,108,109,110,111,112,113,114,115,116,117,118,119,120,121,122,65,66,67,68,69,70,71,72,73,74,75,76,77,78,79,80,81,82,83,84,85,86,87,88,89,90,95]⟩] fun e =>
 cond (decide (e>0))
 (cQ 84 [.string a,.string ⟨#[97,98,99,100,101,102,103,104,105,106,107,108,109,110,111,112,113,114,115,116,117,118,119,120,121,122,65,66,67,68,69,70,71,72,73,74,75,76,77,78,79,80,81,82,83,84,85,86,87,88,89,90,95,48,49,50,51,52,53,54,55,56,57]⟩] fun f =>
 cond (f==(a.size:Int))
 (T.ret (.bool (!d)))
 bz)
 bz)
 bz)
 bz
def Bf (a:Xaa):bZ Xaz [] Tryz.f55 [.string a]=zz a:=ax
def iX (a:Xaa):T :=
 cond ((a.size:Int) != 2)
 (bG #[vI 0,.bool false,.bool false])
 (T.need (lh 1 a.size) <|
 T.need (lh 0 a.size) <|
 cond ((df a 0)==114)
 (cond (decide ((bq ((bq (df a 1))-48))>=0))
 (cond (decide ((bq ((bq (df a 1))-48))<=7))
 (bG #[vI (bq ((bq (df a 1))-48)),.bool false,.bool true])
 (T.need (lh 0 a.size) <|
 cond ((df a 0)==122)
 (cond (decide ((bq ((bq (df a 1))-48))>=0))
 (cond (decide ((bq ((bq (df a 1))-48))<=3))
 (bG #[vI (bq ((bq (df a 1))-48)),.bool true,.bool true])
 (bG #[vI 0,.bool false,.bool false]))
 (bG #[vI 0,.bool false,.bool false]))
 (bG #[vI 0,.bool false,.bool false])))
 (T.need (lh 0 a.size) <|
 cond ((df a 0)==122)
 (cond (decide ((bq ((bq (df a 1))-48))>=0))
 (cond (decide ((bq ((bq (df a 1))-48))<=3))
 (bG #[vI (bq ((bq (df a 1))-48)),.bool true,.bool true])
 (bG #[vI 0,.bool false,.bool false]))
 (bG #[vI 0,.bool false,.bool false]))
 (bG #[vI 0,.bool false,.bool false])))
 (T.need (lh 0 a.size) <|
 cond ((df a 0)==122)
 (cond (decide ((bq ((bq (df a 1))-48))>=0))
 (cond (decide ((bq ((bq (df a 1))-48))<=3))
 (bG #[vI (bq ((bq (df a 1))-48)),.bool true,.bool true])
 (bG #[vI 0,.bool false,.bool false]))
 (bG #[vI 0,.bool false,.bool false]))
 (bG #[vI 0,.bool false,.bool false])))
def mW (a:Xaa):bZ Xaz [] Tryz.f107 [.string a]=iX a:=ax
def kh (a:Xaa):T :=
 cond (decide ((a.size:Int)<1))
 bz
 (cond (decide ((a.size:Int)>32))
 bz
 (T.need (lh 0 a.size) <|
 aZ 105 [.int .u8 (df a 0)] fun b =>
 cond (!b)
 bz
 (T.loop [cn,aQ] [.bool false,vI 0] fun c d =>
 cond (decide (d<(a.size:Int)))
 (T.need (eS d a.size) <|
 aZ 105 [.int .u8 (df a d)] fun e =>
 cond (!e)
 (T.need (eS d a.size) <|
 aZ 106 [.int .u8 (df a d)] fun f =>
 cond (!f)
 bz
 (T.again 0 [.bool c,bh d]))
 (T.again 0 [.bool c,bh d]))
 (bP 107 [.string a] true [aQ,cn,cn] fun e f g =>
 T.ret (.bool (!g))))))
def pL (a:Xaa):bZ Xaz [] Tryz.f78 [.string a]=kh a:=ax
def jB (a:Int):T :=
 cond (decide (a>=97))
 (cond (decide (a<=122))
 ez
 (cond (decide (a>=65))
 (cond (decide (a<=90))
 ez
 (T.ret (.bool (a==95))))
 (T.ret (.bool (a==95)))))
 (cond (decide (a>=65))
 (cond (decide (a<=90))
 ez
 (T.ret (.bool (a==95))))
 (T.ret (.bool (a==95))))
def ou (a:Int):bZ Xaz [] Tryz.f105 [.int .u8 a]=jB a:=ax
def ko (a:Int):T :=
 cond (decide (a>=48))
 (T.ret (.bool (decide (a<=57))))
 bz
def oW (a:Int):bZ Xaz [] Tryz.f106 [.int .u8 a]=ko a:=ax
def zx (a:Option Nat) (b:Int):T :=
 T.new [bg,aF 0] 53 fun c =>
 T.new [bg,aF 0] 53 fun d =>
 T.aD d [bg,aF b] <|
 bP 90 [.map a] false [(false,[.func #[154] #[] false])] fun (e:Xab) =>
 bP 89 [e] false [(false,[.slice 9])] fun f g h =>
 T.loop [aQ] [vI 0] fun i =>
 bt i g
 (aY i g f fun j =>
 T.af (j.add (aI i 1)) [.string] fun k =>
 bQ (Instr.lookup 196 (.map a) (.string k) false) false [(false,[.int .u32])] fun l =>
 cond (l != 0)
 (T.af d [.slice 64] fun m n o =>
 bQ (Instr.lookup 196 (.map a) (.string k) false) false [(false,[.int .u32])] fun p =>
 bn (Instr.buildSlice 50 1 #[(0,.agg #[.string k,aF p])]) fun q r s =>
 bn (Builtin.append_ #[50,50] 50 #[.slice m n o,.slice q r s]) fun t u v =>
 T.aD d [.slice t u v] <|
 T.again 0 [bh i])
 (T.again 0 [bh i]))
 (T.af d (yL 64) fun j k l m =>
 T.aD c [.slice j k l,aF m] <|
 T.af c (yL 64) fun n o p q =>
 T.ret (.agg #[.slice n o p,aF q]))
def AW (a:Option Nat) (b:Int):bZ Xaz [] Tryz.f91 [.map a,.int .u32 b]=zx a b:=ax
def BA (a:Xac) (b c:Nat) (d:Int) (e:Xac) (f g:Nat) (h:Int):T :=
 T.new [.slice a b c,aF d] 53 fun i =>
 T.new [.slice e f g,aF h] 53 fun j =>
 T.new [bg,aF 0] 53 fun k =>
 bQ (Instr.makeMap 196 none) false [(false,[.map 0 0])] fun l =>
 T.af i [.slice 64] fun m n o =>
 T.af j [.slice 64] fun p q r =>
 bn (Instr.buildSlice 59 2 #[(0,.slice m n o),(1,.slice p q r)]) fun s t u =>
 T.loop [aQ] [vI 0] fun v =>
 bt v t
 (aY v t s fun w =>
 T.af (w.add (aI v 1)) [.slice 64] fun x y z =>
 T.loop [aQ] [vI 0] fun A =>
 bt A y
 (aY A y x fun B =>
 T.af (B.add (aI A 2)) [.string,.int .u32] fun C D =>
 T.new [cm,aF 0] 64 fun E =>
 T.aD E [.string C,aF D] <|
 T.af E [.string] fun F =>
 bQ (Instr.lookup 196 (.map l) (.string F) false) false [(false,[.int .u32])] fun G =>
 T.af (E.add 1) [.int .u32] fun H =>
 T.dX Xaz (Instr.mapUpdate 196 (.map l) (.string F) (aF (IntKind.wrap .u32 (G+H)))) <|
 T.again 1 [bh A])
 (T.again 0 [bh v]))
 (T.af (i.add 1) [.int .u32] fun w =>
 T.af (j.add 1) [.int .u32] fun x =>
 bP 91 [.map l,aF (IntKind.wrap .u32 (w+x))] false [(true,(yL 64))] fun y z A B =>
 T.aD k [.slice y z A,aF B] <|
 T.af k (yL 64) fun C D E F =>
 T.ret (.agg #[.slice C D E,aF F]))
def Ct (a:Xac) (b c:Nat) (d:Int) (e:Xac) (f g:Nat) (h:Int):bZ Xaz [] Tryz.f66 [.agg #[.slice a b c,.int .u32 d],.agg #[.slice e f g,.int .u32 h]]=BA a b c d e f g h:=ax
def kx (a:Xac) (b c:Nat) (d:Int):T :=
 T.new [.slice a b c,aF d] 53 fun e =>
 T.loop [cn,aQ] [.bool false,vI 0] fun f g =>
 T.af e [.slice 64] fun h i j =>
 bt g i
 (T.af e [.slice 64] fun k l m =>
 aY g l k fun n =>
 T.af (n.add (aI g 2)) [.string] fun o =>
 aZ 78 [.string o] fun p =>
 T.bi [(e,[.slice k l m])] <|
 cond (!p)
 bz
 (T.af e [.slice 64] fun q r s =>
 aY g r q fun t =>
 T.af ((t.add (aI g 2)).add 1) [.int .u32] fun u =>
 cond (u==0)
 bz
 (cond (decide (g>0))
 (T.af e [.slice 64] fun v w x =>
 aY g w v fun y =>
 T.af (y.add (aI g 2)) [.string] fun z =>
 T.af e [.slice 64] fun A B C =>
 T.need ((0<=(bq (g-1)))/\((bq (g-1))<(B:Int))) <|
 T.bf A fun D =>
 T.af (D.add ((Int.toNat (bq (g-1)))*2)) [.string] fun E =>
 cond ((Op.bytesLess (ByteArray.toList z) (ByteArray.toList E)) || ((ByteArray.toList z)==(ByteArray.toList E)))
 bz
 (T.again 0 [.bool f,bh g]))
 (T.again 0 [.bool f,bh g]))))
 ez
def pj (a:Xac) (b c:Nat) (d:Int):bZ Xaz [] Tryz.f97 [.agg #[.slice a b c,.int .u32 d]]=kx a b c d:=ax
def vZ (a:Xac) (b c:Nat) (d:Int):T :=
 T.new [.slice a b c,aF d] 53 fun e =>
 T.af e [.slice 64] fun f g h =>
 T.loop [cn,aQ] [.bool false,vI 0] fun i j =>
 bt j g
 (aY j g f fun k =>
 T.af (k.add (aI j 2)) [.string,.int .u32] fun l m =>
 T.new [cm,aF 0] 64 fun n =>
 T.aD n [.string l,aF m] <|
 T.af (n.add 1) [.int .u32] fun o =>
 cond (o==0)
 bz
 (T.af n [.string] fun p =>
 aZ 55 [.string p] fun q =>
 T.bi [((n.add 1),[aF o])] <|
 cond (!q)
 bz
 (cond (decide (j>0))
 (T.af n [.string] fun r =>
 T.af e [.slice 64] fun s t u =>
 T.need ((0<=(bq (j-1)))/\((bq (j-1))<(t:Int))) <|
 T.bf s fun v =>
 T.af (v.add ((Int.toNat (bq (j-1)))*2)) [.string] fun w =>
 cond ((Op.bytesLess (ByteArray.toList r) (ByteArray.toList w)) || ((ByteArray.toList r)==(ByteArray.toList w)))
 bz
 (T.again 0 [.bool i,bh j]))
 (T.again 0 [.bool i,bh j]))))
 ez
def zU (a:Xac) (b c:Nat) (d:Int):bZ Xaz [] Tryz.f56 [.agg #[.slice a b c,.int .u32 d]]=vZ a b c d:=ax
def zf (a:Xac) (b c:Nat) (d:Int) (e:Xac) (f g:Nat) (h:Int):T :=
 T.new [.slice a b c,aF d] 53 fun i =>
 T.new [.slice e f g,aF h] 53 fun j =>
 T.af (i.add 1) [.int .u32] fun k =>
 T.af (j.add 1) [.int .u32] fun l =>
 cond (k==l)
 (T.af i [.slice 64] fun m n o =>
 T.af j [.slice 64] fun p q r =>
 aZ 112 [.slice m n o,.slice p q r] fun s =>
 T.ret (.bool s))
 bz
def Bs (a:Xac) (b c:Nat) (d:Int) (e:Xac) (f g:Nat) (h:Int):bZ Xaz [] Tryz.f82 [.agg #[.slice a b c,.int .u32 d],.agg #[.slice e f g,.int .u32 h]]=zf a b c d e f g h:=ax
def kB (a:Xac) (b c:Nat) (d e:Int):T :=
 T.new [.slice a b c,aF d] 53 fun f =>
 T.new [bg,aF 0] 53 fun g =>
 T.af (f.add 1) [.int .u32] fun h =>
 T.new [bg,aF 0] 53 fun i =>
 T.aD i [bg,aF (IntKind.wrap .u32 (h*e))] <|
 T.loop [aQ] [vI 0] fun j =>
 T.af f [.slice 64] fun k l m =>
 bt j l
 (T.af f [.slice 64] fun n o p =>
 aY j o n fun q =>
 T.af ((q.add (aI j 2)).add 1) [.int .u32] fun r =>
 cond ((IntKind.wrap .u32 (r*e)) != 0)
 (T.af i [.slice 64] fun s t u =>
 T.af f [.slice 64] fun v w x =>
 aY j w v fun y =>
 T.af (y.add (aI j 2)) [.string] fun z =>
 bn (Instr.buildSlice 50 1 #[(0,.agg #[.string z,aF (IntKind.wrap .u32 (r*e))])]) fun A B C =>
 T.bi [((y.add (aI j 2)),[.string z]),(f,[.slice v w x]),(i,[.slice s t u])] <|
 bn (Builtin.append_ #[50,50] 50 #[.slice s t u,.slice A B C]) fun D E F =>
 T.bi [((y.add (aI j 2)),[.string z]),(f,[.slice v w x])] <|
 T.aD i [.slice D E F] <|
 T.again 0 [bh j])
 (T.again 0 [bh j]))
 (T.af i (yL 64) fun n o p q =>
 T.aD g [.slice n o p,aF q] <|
 T.af g (yL 64) fun r s t u =>
 T.ret (.agg #[.slice r s t,aF u]))
def oX (a:Xac) (b c:Nat) (d e:Int):bZ Xaz [] Tryz.f102 [.agg #[.slice a b c,.int .u32 d],.int .u32 e]=kB a b c d e:=ax
def eE (a:Xac) (b c:Nat) (d:Xac) (e f:Nat):T :=
 cond ((b:Int) != (e:Int))
 bz
 (T.loop [cn,aQ] [.bool false,vI 0] fun g h =>
 bt h b
 (aY h b a fun i =>
 T.af (i.add (aI h 2)) [.string,.int .u32] fun j k =>
 aY h e d fun l =>
 T.af (l.add (aI h 2)) [.string,.int .u32] fun m n =>
 fh (Sx.lW (BinOp.neq) 64 (Operand.tmp 19) (Operand.tmp 23) (.agg #[.string j,aF k]) (.agg #[.string m,aF n])) fun o =>
 cond o
 bz
 (T.again 0 [.bool g,bh h]))
 ez)
def gw (a:Xac) (b c:Nat) (d:Xac) (e f:Nat):bZ Xaz [] Tryz.f112 [.slice a b c,.slice d e f]=eE a b c d e f:=ax
def zy (a:Xac) (b c:Nat) (d:Int):T :=
 T.new [.slice a b c,aF d] 53 fun e =>
 T.af e [.slice 64] fun f g h =>
 T.loop [cY,aQ] [bg,vI 0] fun i j k l =>
 bt l g
 (aY l g f fun m =>
 T.af (m.add (aI l 2)) [.string,.int .u32] fun n o =>
 T.new [cm,aF 0] 64 fun p =>
 T.aD p [.string n,aF o] <|
 T.af (p.add 1) [.int .u32] fun q =>
 cond (q==1)
 (T.af p [.string] fun r =>
 bn (Instr.buildSlice 68 1 #[(0,.string r)]) fun s t u =>
 bn (Builtin.append_ #[68,68] 68 #[.slice i j k,.slice s t u]) fun v w x =>
 T.again 0 [.slice v w x,bh l])
 (T.af (p.add 1) [.int .u32] fun r =>
 T.af p [.string] fun s =>
 eG 68 [.int .u64 (IntKind.wrap .u64 r),vI 10] fun t =>
 T.bi [(p,[.string s]),((p.add 1),[aF r])] <|
 T.need ((((t.size+1):Nat):Int)<=9223372036854775807) <|
 T.need (((((ByteArray.size (t++⟨#[42]⟩))+s.size):Nat):Int)<=9223372036854775807) <|
 bn (Instr.buildSlice 68 1 #[(0,.string ((t++⟨#[42]⟩)++s))]) fun u v w =>
 T.bi [(p,[.string s]),((p.add 1),[aF r])] <|
 bn (Builtin.append_ #[68,68] 68 #[.slice i j k,.slice u v w]) fun x y z =>
 T.bi [(p,[.string s]),((p.add 1),[aF r])] <|
 T.again 0 [.slice x y z,bh l]))
 (T.af (e.add 1) [.int .u32] fun m =>
 cond (m != 0)
 (T.af (e.add 1) [.int .u32] fun n =>
 eG 68 [.int .u64 (IntKind.wrap .u64 n),vI 10] fun o =>
 bn (Instr.buildSlice 68 1 #[(0,.string o)]) fun p q r =>
 bn (Builtin.append_ #[68,68] 68 #[.slice i j k,.slice p q r]) fun s t u =>
 eG 69 [.slice s t u,.string ⟨#[43]⟩] fun v =>
 T.ret (.string v))
 (cond ((j:Int)==0)
 (T.af (e.add 1) [.int .u32] fun n =>
 eG 68 [.int .u64 (IntKind.wrap .u64 n),vI 10] fun o =>
 bn (Instr.buildSlice 68 1 #[(0,.string o)]) fun p q r =>
 bn (Builtin.append_ #[68,68] 68 #[.slice i j k,.slice p q r]) fun s t u =>
 eG 69 [.slice s t u,.string ⟨#[43]⟩] fun v =>
 T.ret (.string v))
 (eG 69 [.slice i j k,.string ⟨#[43]⟩] fun n =>
 T.ret (.string n))))
def Cd (a:Xac) (b c:Nat) (d:Int):bZ Xaz [] Tryz.f42 [.agg #[.slice a b c,.int .u32 d]]=zy a b c d:=ax
def kK (a b:Int):T :=
 eG 92 [.int .u64 a,vI b] fun c =>
 T.ret (.string c)
def pB (a b:Int):bZ Xaz [] Tryz.f68 [.int .u64 a,vI b]=kK a b:=ax
def fE (a b:Int):T :=
 cond (b==10)
 (cond (decide (a<100))
 (eG 118 [vI (bq a)] fun c =>
 T.ret (.string c))
 (T.new [.int .u8 0,.int .u8 0,.int .u8 0,.int .u8 0,.int .u8 0,.int .u8 0,.int .u8 0,.int .u8 0,.int .u8 0,.int .u8 0,.int .u8 0,.int .u8 0,.int .u8 0,.int .u8 0,.int .u8 0,.int .u8 0,.int .u8 0,.int .u8 0,.int .u8 0,.int .u8 0,.int .u8 0,.int .u8 0,.int .u8 0,.int .u8 0] 234 fun c =>
 cQ 119 [.int .u64 a] fun d =>
 bn (Instr.sliceAt 234 (.pointer (some c)) none (some (vI d)) none) fun e f g =>
 bP 120 [.slice e f g,.int .u64 a] true [] <| bn (Instr.sliceAt 234 (.pointer (some c)) none (some (vI d)) none) fun h i j =>
 bQ (convert 204 9 (.slice h i j)) false [(false,[.string])] fun k =>
 T.ret (.string k)))
 (bP 121 [bg,.int .u64 a,vI b,.bool false,.bool false] true [(false,[.slice 5]),(false,[.string])] fun c d e f =>
 T.ret (.string f))
def jq (a b:Int):bZ Xaz [] Tryz.f92 [.int .u64 a,vI b]=fE a b:=ax
def mJ (a:Xac) (b c:Nat) (d:Int) (e:Xac) (f g:Nat) (h:Int):T :=
 T.new [.slice a b c,aF d] 53 fun i =>
 T.new [.slice e f g,aF h] 53 fun j =>
 T.new [bg,aF 0] 53 fun k =>
 T.af (i.add 1) [.int .u32] fun l =>
 T.af (j.add 1) [.int .u32] fun m =>
 T.new [bg,aF 0] 53 fun n =>
 T.aD n [bg,aF (IntKind.wrap .u32 (l+m))] <|
 T.loop [aQ,aQ] [vI 0,vI 0] fun o p =>
 T.join [cn]
 (T.af i [.slice 64] fun q r s =>
 bt o r
 (T.again 1 [.bool true])
 (T.af j [.slice 64] fun t u v =>
 T.again 1 [.bool (decide (p<(u:Int)))])) fun q =>
 cond q
 (T.join [cn]
 (T.af j [.slice 64] fun r s t =>
 cond (p==(s:Int))
 (T.again 1 [.bool true])
 (T.af i [.slice 64] fun u v w =>
 bt o v
 (T.af i [.slice 64] fun x y z =>
 aY o y x fun A =>
 T.af (A.add (aI o 2)) [.string] fun B =>
 T.af j [.slice 64] fun C D E =>
 aY p D C fun F =>
 T.af (F.add (aI p 2)) [.string] fun G =>
 T.again 1 [.bool (Op.bytesLess (ByteArray.toList B) (ByteArray.toList G))])
 (T.again 1 [.bool false]))) fun r =>
 cond r
 (T.af n [.slice 64] fun s t u =>
 T.af i [.slice 64] fun v w x =>
 aY o w v fun y =>
 T.af (y.add (aI o 2)) [.string,.int .u32] fun z A =>
 bn (Instr.buildSlice 50 1 #[(0,.agg #[.string z,aF A])]) fun B C D =>
 T.bi [(i,[.slice v w x]),(n,[.slice s t u])] <|
 bn (Builtin.append_ #[50,50] 50 #[.slice s t u,.slice B C D]) fun E F G =>
 T.bi [((y.add (aI o 2)),[.string z,aF A]),(i,[.slice v w x])] <|
 T.aD n [.slice E F G] <|
 T.again 0 [bh o,vI p])
 (T.join [cn]
 (T.af i [.slice 64] fun s t u =>
 cond (o==(t:Int))
 (T.again 1 [.bool true])
 (T.af j [.slice 64] fun v w x =>
 aY p w v fun y =>
 T.af (y.add (aI p 2)) [.string] fun z =>
 T.af i [.slice 64] fun A B C =>
 aY o B A fun D =>
 T.af (D.add (aI o 2)) [.string] fun E =>
 T.again 1 [.bool (Op.bytesLess (ByteArray.toList z) (ByteArray.toList E))])) fun s =>
 cond s
 (T.af n [.slice 64] fun t u v =>
 T.af j [.slice 64] fun w x y =>
 aY p x w fun z =>
 T.af (z.add (aI p 2)) [.string,.int .u32] fun A B =>
 bn (Instr.buildSlice 50 1 #[(0,.agg #[.string A,aF B])]) fun C D E =>
 T.bi [(j,[.slice w x y]),(n,[.slice t u v])] <|
 bn (Builtin.append_ #[50,50] 50 #[.slice t u v,.slice C D E]) fun F G H =>
 T.bi [((z.add (aI p 2)),[.string A,aF B]),(j,[.slice w x y])] <|
 T.aD n [.slice F G H] <|
 T.again 0 [vI o,bh p])
 (T.af i [.slice 64] fun t u v =>
 aY o u t fun w =>
 T.af ((w.add (aI o 2)).add 1) [.int .u32] fun x =>
 T.af j [.slice 64] fun y z A =>
 aY p z y fun B =>
 T.af ((B.add (aI p 2)).add 1) [.int .u32] fun C =>
 T.join []
 (cond ((IntKind.wrap .u32 (x+C)) != 0)
 (T.af n [.slice 64] fun D E F =>
 T.af i [.slice 64] fun G H I =>
 aY o H G fun J =>
 T.af (J.add (aI o 2)) [.string] fun K =>
 bn (Instr.buildSlice 50 1 #[(0,.agg #[.string K,aF (IntKind.wrap .u32 (x+C))])]) fun L M N =>
 T.bi [((J.add (aI o 2)),[.string K]),(i,[.slice G H I]),(n,[.slice D E F])] <|
 bn (Builtin.append_ #[50,50] 50 #[.slice D E F,.slice L M N]) fun O P Q =>
 T.bi [((J.add (aI o 2)),[.string K]),(i,[.slice G H I])] <|
 T.aD n [.slice O P Q] <|
 T.again 1 [])
 (T.again 1 [])) <| T.again 0 [bh o,bh p])))
 (T.af n (yL 64) fun r s t u =>
 T.aD k [.slice r s t,aF u] <|
 T.af k (yL 64) fun v w x y =>
 T.ret (.agg #[.slice v w x,aF y]))
def ru (a:Xac) (b c:Nat) (d:Int) (e:Xac) (f g:Nat) (h:Int):bZ Xaz [4,5,8,1014] Tryz.f74 [.agg #[.slice a b c,.int .u32 d],.agg #[.slice e f g,.int .u32 h]]=mJ a b c d e f g h:=ax
end Go.Sx
