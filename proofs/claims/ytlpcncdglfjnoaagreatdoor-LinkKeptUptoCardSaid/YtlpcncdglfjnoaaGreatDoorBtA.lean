/- Trees of functions. No condition. -/
import Derived.Test.YtlpcncdglfjnoaaGreatDoorSxF
import Derived.Test.YtlpcncdglfjnoaaGreatDoorProg
import Derived.KernelRfl
set_option linter.all false
set_option maxRecDepth 100000
set_option maxHeartbeats 4000000
namespace Go.Sx
open Go.Proofs
def uz (a:Xaa) (b:Int):T :=
 T.call Xaz 129 [.string a,.int .u8 b] false [(false,[.int .i64])] fun c =>
 T.ret (vI c)
def qJ (a:Xaa) (b:Int):bS Xaz [] Tryz.f120 [.string a,.int .u8 b]=uz a b:=aw
def js (a:Xaa) (b:Int):T :=
 T.eN Xaz (Sx.IZ 144 #[.string a,.int .u8 b]) false [(false,[.int .i64])] fun c =>
 T.ret (vI c)
def iG (a:Xaa) (b:Int):bS Xaz [] Tryz.f129 [.string a,.int .u8 b]=js a b:=aw
def Mb (a b:Xaa):T :=
 T.loop [(false,[.int .i64])] [vI 0] fun c =>
 cond (decide (c<(a.size:Int)))
 (T.need ((0<=c)/\(c<(a.size:Int))) <|
 T.call Xaz 120 [.string b,.int .u8 (dm a c)] false [(false,[.int .i64])] fun d =>
 cond (decide (d>=0))
 (T.again 0 [vI (IntKind.wrap .i64 (c+1))])
 (T.ret (vI c)))
 (T.ret (vI c))
def D5 (a b:Xaa):bS Xaz [] Tryz.f103 [.string a,.string b]=Mb a b:=aw
def r7 (a:Xaa):T :=
 cond ((a.size:Int) != 2)
 (bK #[vI 0,.bool false,.bool false])
 (T.need (iW 1 a.size) <|
 T.need (iW 0 a.size) <|
 cond ((dm a 0)==114)
 (cond (decide ((bC ((bC (dm a 1))-48))>=0))
 (cond (decide ((bC ((bC (dm a 1))-48))<8))
 (bK #[vI (bC ((bC (dm a 1))-48)),.bool false,.bool true])
 (T.need (iW 0 a.size) <|
 cond ((dm a 0)==122)
 (cond (decide ((bC ((bC (dm a 1))-48))>=0))
 (cond (decide ((bC ((bC (dm a 1))-48))<4))
 (bK #[vI (bC ((bC (dm a 1))-48)),.bool true,.bool true])
 (bK #[vI 0,.bool false,.bool false]))
 (bK #[vI 0,.bool false,.bool false]))
 (bK #[vI 0,.bool false,.bool false])))
 (T.need (iW 0 a.size) <|
 cond ((dm a 0)==122)
 (cond (decide ((bC ((bC (dm a 1))-48))>=0))
 (cond (decide ((bC ((bC (dm a 1))-48))<4))
 (bK #[vI (bC ((bC (dm a 1))-48)),.bool true,.bool true])
 (bK #[vI 0,.bool false,.bool false]))
 (bK #[vI 0,.bool false,.bool false]))
 (bK #[vI 0,.bool false,.bool false])))
 (T.need (iW 0 a.size) <|
 cond ((dm a 0)==122)
 (cond (decide ((bC ((bC (dm a 1))-48))>=0))
 (cond (decide ((bC ((bC (dm a 1))-48))<4))
 (bK #[vI (bC ((bC (dm a 1))-48)),.bool true,.bool true])
 (bK #[vI 0,.bool false,.bool false]))
 (bK #[vI 0,.bool false,.bool false]))
 (bK #[vI 0,.bool false,.bool false])))
def wQ (a:Xaa):bS Xaz [] Tryz.f102 [.string a]=r7 a:=aw
def zz (a:Xaa):T :=
 bz 102 [.string a] true [aK,cr,cr] fun b c d =>
 cond (!((ByteArray.toList a)==[]))
 (cond (decide ((a.size:Int)<=32))
 (dl 103 [.string a,.string ⟨#[97,98,99,100,101,102,103,104,105,106,107,108,109,110,111,112,113,114,115,116,117,118,119,120,121,122,65,66,67,68,69,70,71,72,73,74,75,76,77,78,79,80,81,82,83,84,85,86,87,88,89,90,95]⟩] fun e =>
 cond (decide (e>0))
 (dl 103 [.string a,.string ⟨#[97,98,99,100,101,102,103,104,105,106,107,108,109,110,111,112,113,114,115,116,117,118,119,120,121,122,65,66,67,68,69,70,71,72,73,74,75,76,77,78,79,80,81,82,83,84,85,86,87,88,89,90,95,48,49,50,51,52,53,54,55,56,57]⟩] fun f =>
 cond (f==(a.size:Int))
 (T.ret (.bool (!d)))
 bH)
 bH)
 bH)
 bH
def A3 (a:Xaa):bS Xaz [] Tryz.f79 [.string a]=zz a:=aw
def jf (a:Xaa):T :=
 cond ((a.size:Int) != 2)
 (bK #[vI 0,.bool false,.bool false])
 (T.need (iW 1 a.size) <|
 T.need (iW 0 a.size) <|
 cond ((dm a 0)==114)
 (cond (decide ((bC ((bC (dm a 1))-48))>=0))
 (cond (decide ((bC ((bC (dm a 1))-48))<=7))
 (bK #[vI (bC ((bC (dm a 1))-48)),.bool false,.bool true])
 (T.need (iW 0 a.size) <|
 cond ((dm a 0)==122)
 (cond (decide ((bC ((bC (dm a 1))-48))>=0))
 (cond (decide ((bC ((bC (dm a 1))-48))<=3))
 (bK #[vI (bC ((bC (dm a 1))-48)),.bool true,.bool true])
 (bK #[vI 0,.bool false,.bool false]))
 (bK #[vI 0,.bool false,.bool false]))
 (bK #[vI 0,.bool false,.bool false])))
 (T.need (iW 0 a.size) <|
 cond ((dm a 0)==122)
 (cond (decide ((bC ((bC (dm a 1))-48))>=0))
 (cond (decide ((bC ((bC (dm a 1))-48))<=3))
 (bK #[vI (bC ((bC (dm a 1))-48)),.bool true,.bool true])
 (bK #[vI 0,.bool false,.bool false]))
 (bK #[vI 0,.bool false,.bool false]))
 (bK #[vI 0,.bool false,.bool false])))
 (T.need (iW 0 a.size) <|
 cond ((dm a 0)==122)
 (cond (decide ((bC ((bC (dm a 1))-48))>=0))
 (cond (decide ((bC ((bC (dm a 1))-48))<=3))
 (bK #[vI (bC ((bC (dm a 1))-48)),.bool true,.bool true])
 (bK #[vI 0,.bool false,.bool false]))
 (bK #[vI 0,.bool false,.bool false]))
 (bK #[vI 0,.bool false,.bool false])))
def nq (a:Xaa):bS Xaz [] Tryz.f77 [.string a]=jf a:=aw
def ko (a:Xaa):T :=
 cond (decide ((a.size:Int)<1))
 bH
 (cond (decide ((a.size:Int)>32))
 bH
 (T.need (iW 0 a.size) <|
 bd 75 [.int .u8 (dm a 0)] fun b =>
 cond (!b)
 bH
 (T.loop [cr,aK] [.bool false,vI 0] fun c d =>
 cond (decide (d<(a.size:Int)))
 (T.need (dF d a.size) <|
 bd 75 [.int .u8 (dm a d)] fun e =>
 cond (!e)
 (T.need (dF d a.size) <|
 bd 76 [.int .u8 (dm a d)] fun f =>
 cond (!f)
 bH
 (T.again 0 [.bool c,bj d]))
 (T.again 0 [.bool c,bj d]))
 (bz 77 [.string a] true [aK,cr,cr] fun e f g =>
 T.ret (.bool (!g))))))
def qh (a:Xaa):bS Xaz [] Tryz.f35 [.string a]=ko a:=aw
def jH (a:Int):T :=
 cond (decide (a>=97))
 (cond (decide (a<=122))
 dZ
 (cond (decide (a>=65))
 (cond (decide (a<=90))
 dZ
 (T.ret (.bool (a==95))))
 (T.ret (.bool (a==95)))))
 (cond (decide (a>=65))
 (cond (decide (a<=90))
 dZ
 (T.ret (.bool (a==95))))
 (T.ret (.bool (a==95))))
def oO (a:Int):bS Xaz [] Tryz.f75 [.int .u8 a]=jH a:=aw
def kr (a:Int):T :=
 cond (decide (a>=48))
 (T.ret (.bool (decide (a<=57))))
 bH
def pB (a:Int):bS Xaz [] Tryz.f76 [.int .u8 a]=kr a:=aw
def zy (a:Option Nat) (b:Int):T :=
 T.new [aS,ax 0] 60 fun c =>
 T.new [aS,ax 0] 60 fun d =>
 T.ar d [aS,ax b] <|
 bz 109 [.map a] false [(false,[.func #[86] #[] false])] fun (e:Xab) =>
 bz 108 [e] false [(false,[.slice 9])] fun f g h =>
 T.loop [aK] [vI 0] fun i =>
 bn i g
 (aY i g f fun j =>
 T.af (j.add (ay i 1)) [.string] fun k =>
 bX (Instr.lookup 170 (.map a) (.string k) false) false [(false,[.int .u32])] fun l =>
 cond (l != 0)
 (T.af d [.slice 66] fun m n o =>
 bX (Instr.lookup 170 (.map a) (.string k) false) false [(false,[.int .u32])] fun p =>
 aT (Instr.buildSlice 57 1 #[(0,.agg #[.string k,ax p])]) fun q r s =>
 aT (Builtin.append_ #[57,57] 57 #[.slice m n o,.slice q r s]) fun t u v =>
 T.ar d [.slice t u v] <|
 T.again 0 [bj i])
 (T.again 0 [bj i]))
 (T.af d (yL 66) fun j k l m =>
 T.ar c [.slice j k l,ax m] <|
 T.af c (yL 66) fun n o p q =>
 T.ret (.agg #[.slice n o p,ax q]))
def AJ (a:Option Nat) (b:Int):bS Xaz [] Tryz.f110 [.map a,.int .u32 b]=zy a b:=aw
def Bl (a:Xac) (b c:Nat) (d:Int) (e:Xac) (f g:Nat) (h:Int):T :=
 T.new [.slice a b c,ax d] 60 fun i =>
 T.new [.slice e f g,ax h] 60 fun j =>
 T.new [aS,ax 0] 60 fun k =>
 bX (Instr.makeMap 170 none) false [(false,[.map 0 0])] fun l =>
 T.af i [.slice 66] fun m n o =>
 T.af j [.slice 66] fun p q r =>
 aT (Instr.buildSlice 175 2 #[(0,.slice m n o),(1,.slice p q r)]) fun s t u =>
 T.loop [aK] [vI 0] fun v =>
 bn v t
 (aY v t s fun w =>
 T.af (w.add (ay v 1)) [.slice 66] fun x y z =>
 T.loop [aK] [vI 0] fun A =>
 bn A y
 (aY A y x fun B =>
 T.af (B.add (ay A 2)) [.string,.int .u32] fun C D =>
 T.new [cm,ax 0] 66 fun E =>
 T.ar E [.string C,ax D] <|
 T.af E [.string] fun F =>
 bX (Instr.lookup 170 (.map l) (.string F) false) false [(false,[.int .u32])] fun G =>
 T.af (E.add 1) [.int .u32] fun H =>
 T.eV Xaz (Instr.mapUpdate 170 (.map l) (.string F) (ax (IntKind.wrap .u32 (G+H)))) <|
 T.again 1 [bj A])
 (T.again 0 [bj v]))
 (T.af (i.add 1) [.int .u32] fun w =>
 T.af (j.add 1) [.int .u32] fun x =>
 bz 110 [.map l,ax (IntKind.wrap .u32 (w+x))] false [(true,(yL 66))] fun y z A B =>
 T.ar k [.slice y z A,ax B] <|
 T.af k (yL 66) fun C D E F =>
 T.ret (.agg #[.slice C D E,ax F]))
def B' (a:Xac) (b c:Nat) (d:Int) (e:Xac) (f g:Nat) (h:Int):bS Xaz [] Tryz.f87 [.agg #[.slice a b c,.int .u32 d],.agg #[.slice e f g,.int .u32 h]]=Bl a b c d e f g h:=aw
def kB (a:Xac) (b c:Nat) (d:Int):T :=
 T.new [.slice a b c,ax d] 60 fun e =>
 T.loop [cr,aK] [.bool false,vI 0] fun f g =>
 T.af e [.slice 66] fun h i j =>
 bn g i
 (T.af e [.slice 66] fun k l m =>
 aY g l k fun n =>
 T.af (n.add (ay g 2)) [.string] fun o =>
 bd 35 [.string o] fun p =>
 T.aD [(e,[.slice k l m])] <|
 cond (!p)
 bH
 (T.af e [.slice 66] fun q r s =>
 aY g r q fun t =>
 T.af ((t.add (ay g 2)).add 1) [.int .u32] fun u =>
 cond (u==0)
 bH
 (cond (decide (g>0))
 (T.af e [.slice 66] fun v w x =>
 aY g w v fun y =>
 T.af (y.add (ay g 2)) [.string] fun z =>
 T.af e [.slice 66] fun A B C =>
 T.need ((0<=(bC (g-1)))/\((bC (g-1))<(B:Int))) <|
 T.aR A fun D =>
 T.af (D.add ((Int.toNat (bC (g-1)))*2)) [.string] fun E =>
 cond ((Op.bytesLess (ByteArray.toList z) (ByteArray.toList E)) || ((ByteArray.toList z)==(ByteArray.toList E)))
 bH
 (T.again 0 [.bool f,bj g]))
 (T.again 0 [.bool f,bj g]))))
 dZ
def pR (a:Xac) (b c:Nat) (d:Int):bS Xaz [] Tryz.f36 [.agg #[.slice a b c,.int .u32 d]]=kB a b c d:=aw
def wF (a:Xac) (b c:Nat) (d:Int):T :=
 T.new [.slice a b c,ax d] 60 fun e =>
 T.af e [.slice 66] fun f g h =>
 T.loop [cr,aK] [.bool false,vI 0] fun i j =>
 bn j g
 (aY j g f fun k =>
 T.af (k.add (ay j 2)) [.string,.int .u32] fun l m =>
 T.new [cm,ax 0] 66 fun n =>
 T.ar n [.string l,ax m] <|
 T.af (n.add 1) [.int .u32] fun o =>
 cond (o==0)
 bH
 (T.af n [.string] fun p =>
 bd 79 [.string p] fun q =>
 T.aD [((n.add 1),[ax o])] <|
 cond (!q)
 bH
 (cond (decide (j>0))
 (T.af n [.string] fun r =>
 T.af e [.slice 66] fun s t u =>
 T.need ((0<=(bC (j-1)))/\((bC (j-1))<(t:Int))) <|
 T.aR s fun v =>
 T.af (v.add ((Int.toNat (bC (j-1)))*2)) [.string] fun w =>
 cond ((Op.bytesLess (ByteArray.toList r) (ByteArray.toList w)) || ((ByteArray.toList r)==(ByteArray.toList w)))
 bH
 (T.again 0 [.bool i,bj j]))
 (T.again 0 [.bool i,bj j]))))
 dZ
def zP (a:Xac) (b c:Nat) (d:Int):bS Xaz [] Tryz.f80 [.agg #[.slice a b c,.int .u32 d]]=wF a b c d:=aw
def zh (a:Xac) (b c:Nat) (d:Int) (e:Xac) (f g:Nat) (h:Int):T :=
 T.new [.slice a b c,ax d] 60 fun i =>
 T.new [.slice e f g,ax h] 60 fun j =>
 T.af (i.add 1) [.int .u32] fun k =>
 T.af (j.add 1) [.int .u32] fun l =>
 cond (k==l)
 (T.af i [.slice 66] fun m n o =>
 T.af j [.slice 66] fun p q r =>
 bd 119 [.slice m n o,.slice p q r] fun s =>
 T.ret (.bool s))
 bH
def Bf (a:Xac) (b c:Nat) (d:Int) (e:Xac) (f g:Nat) (h:Int):bS Xaz [] Tryz.f101 [.agg #[.slice a b c,.int .u32 d],.agg #[.slice e f g,.int .u32 h]]=zh a b c d e f g h:=aw
def lf (a:Xac) (b c:Nat) (d:Int) (e:Xac) (f g:Nat) (h:Int):T :=
 T.new [.slice a b c,ax d] 60 fun i =>
 T.new [.slice e f g,ax h] 60 fun j =>
 T.af (i.add 1) [.int .u32] fun k =>
 T.af (j.add 1) [.int .u32] fun l =>
 cond (k != l)
 bH
 (T.af i [.slice 66] fun m n o =>
 T.af j [.slice 66] fun p q r =>
 cond ((n:Int) != (q:Int))
 bH
 (T.loop [cr,aK] [.bool false,vI 0] fun s t =>
 T.af i [.slice 66] fun u v w =>
 bn t v
 (T.af i [.slice 66] fun x y z =>
 aY t y x fun A =>
 T.af (A.add (ay t 2)) [.string,.int .u32] fun B C =>
 T.af j [.slice 66] fun D E F =>
 aY t E D fun G =>
 T.af (G.add (ay t 2)) [.string,.int .u32] fun H I =>
 ei (Sx.jk (BinOp.neq) 66 (Operand.tmp 31) (Operand.tmp 36) (.agg #[.string B,ax C]) (.agg #[.string H,ax I])) fun J =>
 T.aD [(j,[.slice D E F]),(i,[.slice x y z])] <|
 cond J
 bH
 (T.again 0 [.bool s,bj t]))
 dZ))
def qx (a:Xac) (b c:Nat) (d:Int) (e:Xac) (f g:Nat) (h:Int):bS Xaz [] Tryz.f88 [.agg #[.slice a b c,.int .u32 d],.agg #[.slice e f g,.int .u32 h]]=lf a b c d e f g h:=aw
def kD (a:Xac) (b c:Nat) (d e:Int):T :=
 T.new [.slice a b c,ax d] 60 fun f =>
 T.new [aS,ax 0] 60 fun g =>
 T.af (f.add 1) [.int .u32] fun h =>
 T.new [aS,ax 0] 60 fun i =>
 T.ar i [aS,ax (IntKind.wrap .u32 (h*e))] <|
 T.loop [aK] [vI 0] fun j =>
 T.af f [.slice 66] fun k l m =>
 bn j l
 (T.af f [.slice 66] fun n o p =>
 aY j o n fun q =>
 T.af ((q.add (ay j 2)).add 1) [.int .u32] fun r =>
 cond ((IntKind.wrap .u32 (r*e)) != 0)
 (T.af i [.slice 66] fun s t u =>
 T.af f [.slice 66] fun v w x =>
 aY j w v fun y =>
 T.af (y.add (ay j 2)) [.string] fun z =>
 aT (Instr.buildSlice 57 1 #[(0,.agg #[.string z,ax (IntKind.wrap .u32 (r*e))])]) fun A B C =>
 T.aD [((y.add (ay j 2)),[.string z]),(f,[.slice v w x]),(i,[.slice s t u])] <|
 aT (Builtin.append_ #[57,57] 57 #[.slice s t u,.slice A B C]) fun D E F =>
 T.aD [((y.add (ay j 2)),[.string z]),(f,[.slice v w x])] <|
 T.ar i [.slice D E F] <|
 T.again 0 [bj j])
 (T.again 0 [bj j]))
 (T.af i (yL 66) fun n o p q =>
 T.ar g [.slice n o p,ax q] <|
 T.af g (yL 66) fun r s t u =>
 T.ret (.agg #[.slice r s t,ax u]))
def pC (a:Xac) (b c:Nat) (d e:Int):bS Xaz [] Tryz.f116 [.agg #[.slice a b c,.int .u32 d],.int .u32 e]=kD a b c d e:=aw
def eK (a:Xac) (b c:Nat) (d:Xac) (e f:Nat):T :=
 cond ((b:Int) != (e:Int))
 bH
 (T.loop [cr,aK] [.bool false,vI 0] fun g h =>
 bn h b
 (aY h b a fun i =>
 T.af (i.add (ay h 2)) [.string,.int .u32] fun j k =>
 aY h e d fun l =>
 T.af (l.add (ay h 2)) [.string,.int .u32] fun m n =>
 ei (Sx.jk (BinOp.neq) 66 (Operand.tmp 19) (Operand.tmp 23) (.agg #[.string j,ax k]) (.agg #[.string m,ax n])) fun o =>
 cond o
 bH
 (T.again 0 [.bool g,bj h]))
 dZ)
def gI (a:Xac) (b c:Nat) (d:Xac) (e f:Nat):bS Xaz [] Tryz.f119 [.slice a b c,.slice d e f]=eK a b c d e f:=aw
def mT (a:Xac) (b c:Nat) (d:Int) (e:Xac) (f g:Nat) (h:Int):T :=
 T.new [.slice a b c,ax d] 60 fun i =>
 T.new [.slice e f g,ax h] 60 fun j =>
 T.new [aS,ax 0] 60 fun k =>
 T.af (i.add 1) [.int .u32] fun l =>
 T.af (j.add 1) [.int .u32] fun m =>
 T.new [aS,ax 0] 60 fun n =>
 T.ar n [aS,ax (IntKind.wrap .u32 (l+m))] <|
 T.loop [aK,aK] [vI 0,vI 0] fun o p =>
 T.join [cr]
 (T.af i [.slice 66] fun q r s =>
 bn o r
 (T.again 1 [.bool true])
 (T.af j [.slice 66] fun t u v =>
 T.again 1 [.bool (decide (p<(u:Int)))])) fun q =>
 cond q
 (T.join [cr]
 (T.af j [.slice 66] fun r s t =>
 cond (p==(s:Int))
 (T.again 1 [.bool true])
 (T.af i [.slice 66] fun u v w =>
 bn o v
 (T.af i [.slice 66] fun x y z =>
 aY o y x fun A =>
 T.af (A.add (ay o 2)) [.string] fun B =>
 T.af j [.slice 66] fun C D E =>
 aY p D C fun F =>
 T.af (F.add (ay p 2)) [.string] fun G =>
 T.again 1 [.bool (Op.bytesLess (ByteArray.toList B) (ByteArray.toList G))])
 (T.again 1 [.bool false]))) fun r =>
 cond r
 (T.af n [.slice 66] fun s t u =>
 T.af i [.slice 66] fun v w x =>
 aY o w v fun y =>
 T.af (y.add (ay o 2)) [.string,.int .u32] fun z A =>
 aT (Instr.buildSlice 57 1 #[(0,.agg #[.string z,ax A])]) fun B C D =>
 T.aD [(i,[.slice v w x]),(n,[.slice s t u])] <|
 aT (Builtin.append_ #[57,57] 57 #[.slice s t u,.slice B C D]) fun E F G =>
 T.aD [((y.add (ay o 2)),[.string z,ax A]),(i,[.slice v w x])] <|
 T.ar n [.slice E F G] <|
 T.again 0 [bj o,vI p])
 (T.join [cr]
 (T.af i [.slice 66] fun s t u =>
 cond (o==(t:Int))
 (T.again 1 [.bool true])
 (T.af j [.slice 66] fun v w x =>
 aY p w v fun y =>
 T.af (y.add (ay p 2)) [.string] fun z =>
 T.af i [.slice 66] fun A B C =>
 aY o B A fun D =>
 T.af (D.add (ay o 2)) [.string] fun E =>
 T.again 1 [.bool (Op.bytesLess (ByteArray.toList z) (ByteArray.toList E))])) fun s =>
 cond s
 (T.af n [.slice 66] fun t u v =>
 T.af j [.slice 66] fun w x y =>
 aY p x w fun z =>
 T.af (z.add (ay p 2)) [.string,.int .u32] fun A B =>
 aT (Instr.buildSlice 57 1 #[(0,.agg #[.string A,ax B])]) fun C D E =>
 T.aD [(j,[.slice w x y]),(n,[.slice t u v])] <|
 aT (Builtin.append_ #[57,57] 57 #[.slice t u v,.slice C D E]) fun F G H =>
 T.aD [((z.add (ay p 2)),[.string A,ax B]),(j,[.slice w x y])] <|
 T.ar n [.slice F G H] <|
 T.again 0 [vI o,bj p])
 (T.af i [.slice 66] fun t u v =>
 aY o u t fun w =>
 T.af ((w.add (ay o 2)).add 1) [.int .u32] fun x =>
 T.af j [.slice 66] fun y z A =>
 aY p z y fun B =>
 T.af ((B.add (ay p 2)).add 1) [.int .u32] fun C =>
 T.join []
 (cond ((IntKind.wrap .u32 (x+C)) != 0)
 (T.af n [.slice 66] fun D E F =>
 T.af i [.slice 66] fun G H I =>
 aY o H G fun J =>
 T.af (J.add (ay o 2)) [.string] fun K =>
 aT (Instr.buildSlice 57 1 #[(0,.agg #[.string K,ax (IntKind.wrap .u32 (x+C))])]) fun L M N =>
 T.aD [((J.add (ay o 2)),[.string K]),(i,[.slice G H I]),(n,[.slice D E F])] <|
 aT (Builtin.append_ #[57,57] 57 #[.slice D E F,.slice L M N]) fun O P Q =>
 T.aD [((J.add (ay o 2)),[.string K]),(i,[.slice G H I])] <|
 T.ar n [.slice O P Q] <|
 T.again 1 [])
 (T.again 1 [])) <| T.again 0 [bj o,bj p])))
 (T.af n (yL 66) fun r s t u =>
 T.ar k [.slice r s t,ax u] <|
 T.af k (yL 66) fun v w x y =>
 T.ret (.agg #[.slice v w x,ax y]))
def rJ (a:Xac) (b c:Nat) (d:Int) (e:Xac) (f g:Nat) (h:Int):bS Xaz [4,5,8,1014] Tryz.f92 [.agg #[.slice a b c,.int .u32 d],.agg #[.slice e f g,.int .u32 h]]=mT a b c d e f g h:=aw
end Go.Sx
