/- Trees of functions. No condition. -/
import Derived.Test.YthbffkdafjboiaaGreatDoorSxF
import Derived.Test.YthbffkdafjboiaaGreatDoorProg
import Derived.KernelRfl
set_option linter.all false
set_option maxRecDepth 100000
set_option maxHeartbeats 4000000
namespace Go.Sx
open Go.Proofs
def te (a:Xaa) (b:Int):T :=
 T.call Tryz.prog 137 [.string a,.int .u8 b] false [(false,[.int .i64])] fun c =>
 T.ret (vI c)
def pJ (a:Xaa) (b:Int):bM Tryz.prog [] Tryz.f114 [.string a,.int .u8 b]=te a b:=az
def iL (a:Xaa) (b:Int):T :=
 T.ek Tryz.prog (Sx.HU 153 #[.string a,.int .u8 b]) false [(false,[.int .i64])] fun c =>
 T.ret (vI c)
def gR (a:Xaa) (b:Int):bM Tryz.prog [] Tryz.f137 [.string a,.int .u8 b]=iL a b:=az
def K0 (a:Xaa) (b:Xaa):T :=
 T.loop [(false,[.int .i64])] [vI 0] fun c =>
 cond (decide (c<(a.size:Int)))
 (T.need (((0:Int)<=c)/\(c<(a.size:Int))) <|
 T.call Tryz.prog 114 [.string b,.int .u8 (cw a c)] false [(false,[.int .i64])] fun d =>
 cond (decide (d>=(0:Int)))
 (T.again 0 [vI (IntKind.wrap .i64 (c+(1:Int)))])
 (T.ret (vI c)))
 (T.ret (vI c))
def Da (a:Xaa) (b:Xaa):bM Tryz.prog [] Tryz.f88 [.string a,.string b]=K0 a b:=az
def qS (a:Xaa):T :=
 cond ((a.size:Int) != (2:Int))
 (bn #[vI 0,.bool false,.bool false])
 (T.need (fA 1 a.size) <|
 T.need (fA 0 a.size) <|
 cond ((cw a (0:Int))==(114:Int))
 (cond (decide ((bm ((bm (cw a (1:Int)))-(48:Int)))>=(0:Int)))
 (cond (decide ((bm ((bm (cw a (1:Int)))-(48:Int)))<(8:Int)))
 (bn #[vI (bm ((bm (cw a (1:Int)))-(48:Int))),.bool false,.bool true])
 (T.need (fA 0 a.size) <|
 cond ((cw a (0:Int))==(122:Int))
 (cond (decide ((bm ((bm (cw a (1:Int)))-(48:Int)))>=(0:Int)))
 (cond (decide ((bm ((bm (cw a (1:Int)))-(48:Int)))<(4:Int)))
 (bn #[vI (bm ((bm (cw a (1:Int)))-(48:Int))),.bool true,.bool true])
 (bn #[vI 0,.bool false,.bool false]))
 (bn #[vI 0,.bool false,.bool false]))
 (bn #[vI 0,.bool false,.bool false])))
 (T.need (fA 0 a.size) <|
 cond ((cw a (0:Int))==(122:Int))
 (cond (decide ((bm ((bm (cw a (1:Int)))-(48:Int)))>=(0:Int)))
 (cond (decide ((bm ((bm (cw a (1:Int)))-(48:Int)))<(4:Int)))
 (bn #[vI (bm ((bm (cw a (1:Int)))-(48:Int))),.bool true,.bool true])
 (bn #[vI 0,.bool false,.bool false]))
 (bn #[vI 0,.bool false,.bool false]))
 (bn #[vI 0,.bool false,.bool false])))
 (T.need (fA 0 a.size) <|
 cond ((cw a (0:Int))==(122:Int))
 (cond (decide ((bm ((bm (cw a (1:Int)))-(48:Int)))>=(0:Int)))
 (cond (decide ((bm ((bm (cw a (1:Int)))-(48:Int)))<(4:Int)))
 (bn #[vI (bm ((bm (cw a (1:Int)))-(48:Int))),.bool true,.bool true])
 (bn #[vI 0,.bool false,.bool false]))
 (bn #[vI 0,.bool false,.bool false]))
 (bn #[vI 0,.bool false,.bool false])))
def vq (a:Xaa):bM Tryz.prog [] Tryz.f87 [.string a]=qS a:=az
def yp (a:Xaa):T :=
 bJ 87 [.string a] true [aP,bR,bR] fun b c d =>
 cond (!((ByteArray.toList a)==[]))
 (cond (decide ((a.size:Int)<=(32:Int)))
 (ct 88 [.string a,.string ⟨#[97,98,99,100,101,102,103,104,105,106,107,108,109,110,111,112,113,114,115,116,117,118,119,120,121,122,65,66,67,68,69,70,71,72,73,74,75,76,77,78,79,80,81,82,83,84,85,86,87,88,89,90,95]⟩] fun e =>
 cond (decide (e>(0:Int)))
 (ct 88 [.string a,.string ⟨#[97,98,99,100,101,102,103,104,105,106,107,108,109,110,111,112,113,114,115,116,117,118,119,120,121,122,65,66,67,68,69,70,71,72,73,74,75,76,77,78,79,80,81,82,83,84,85,86,87,88,89,90,95,48,49,50,51,52,53,54,55,56,57]⟩] fun f =>
 cond (f==(a.size:Int))
 (T.ret (.bool (!d)))
 bC)
 bC)
 bC)
 bC
def zW (a:Xaa):bM Tryz.prog [] Tryz.f60 [.string a]=yp a:=az
def iy (a:Xaa):T :=
 cond ((a.size:Int) != (2:Int))
 (bn #[vI 0,.bool false,.bool false])
 (T.need (fA 1 a.size) <|
 T.need (fA 0 a.size) <|
 cond ((cw a (0:Int))==(114:Int))
 (cond (decide ((bm ((bm (cw a (1:Int)))-(48:Int)))>=(0:Int)))
 (cond (decide ((bm ((bm (cw a (1:Int)))-(48:Int)))<=(7:Int)))
 (bn #[vI (bm ((bm (cw a (1:Int)))-(48:Int))),.bool false,.bool true])
 (T.need (fA 0 a.size) <|
 cond ((cw a (0:Int))==(122:Int))
 (cond (decide ((bm ((bm (cw a (1:Int)))-(48:Int)))>=(0:Int)))
 (cond (decide ((bm ((bm (cw a (1:Int)))-(48:Int)))<=(3:Int)))
 (bn #[vI (bm ((bm (cw a (1:Int)))-(48:Int))),.bool true,.bool true])
 (bn #[vI 0,.bool false,.bool false]))
 (bn #[vI 0,.bool false,.bool false]))
 (bn #[vI 0,.bool false,.bool false])))
 (T.need (fA 0 a.size) <|
 cond ((cw a (0:Int))==(122:Int))
 (cond (decide ((bm ((bm (cw a (1:Int)))-(48:Int)))>=(0:Int)))
 (cond (decide ((bm ((bm (cw a (1:Int)))-(48:Int)))<=(3:Int)))
 (bn #[vI (bm ((bm (cw a (1:Int)))-(48:Int))),.bool true,.bool true])
 (bn #[vI 0,.bool false,.bool false]))
 (bn #[vI 0,.bool false,.bool false]))
 (bn #[vI 0,.bool false,.bool false])))
 (T.need (fA 0 a.size) <|
 cond ((cw a (0:Int))==(122:Int))
 (cond (decide ((bm ((bm (cw a (1:Int)))-(48:Int)))>=(0:Int)))
 (cond (decide ((bm ((bm (cw a (1:Int)))-(48:Int)))<=(3:Int)))
 (bn #[vI (bm ((bm (cw a (1:Int)))-(48:Int))),.bool true,.bool true])
 (bn #[vI 0,.bool false,.bool false]))
 (bn #[vI 0,.bool false,.bool false]))
 (bn #[vI 0,.bool false,.bool false])))
def mn (a:Xaa):bM Tryz.prog [] Tryz.f108 [.string a]=iy a:=az
def jT (a:Xaa):T :=
 cond (decide ((a.size:Int)<(1:Int)))
 bC
 (cond (decide ((a.size:Int)>(32:Int)))
 bC
 (T.need (fA 0 a.size) <|
 aX 106 [.int .u8 (cw a (0:Int))] fun b =>
 cond (!b)
 bC
 (T.loop [bR,aP] [.bool false,vI 0] fun c d =>
 cond (decide (d<(a.size:Int)))
 (T.need (dU d a.size) <|
 aX 106 [.int .u8 (cw a d)] fun e =>
 cond (!e)
 (T.need (dU d a.size) <|
 aX 107 [.int .u8 (cw a d)] fun f =>
 cond (!f)
 bC
 (T.again 0 [.bool c,bg d]))
 (T.again 0 [.bool c,bg d]))
 (bJ 108 [.string a] true [aP,bR,bR] fun e f g =>
 T.ret (.bool (!g))))))
def oZ (a:Xaa):bM Tryz.prog [] Tryz.f82 [.string a]=jT a:=az
def jd (a:Int):T :=
 cond (decide (a>=(97:Int)))
 (cond (decide (a<=(122:Int)))
 dy
 (cond (decide (a>=(65:Int)))
 (cond (decide (a<=(90:Int)))
 dy
 (T.ret (.bool (a==(95:Int)))))
 (T.ret (.bool (a==(95:Int))))))
 (cond (decide (a>=(65:Int)))
 (cond (decide (a<=(90:Int)))
 dy
 (T.ret (.bool (a==(95:Int)))))
 (T.ret (.bool (a==(95:Int)))))
def nQ (a:Int):bM Tryz.prog [] Tryz.f106 [.int .u8 a]=jd a:=az
def jX (a:Int):T :=
 cond (decide (a>=(48:Int)))
 (T.ret (.bool (decide (a<=(57:Int)))))
 bC
def oz (a:Int):bM Tryz.prog [] Tryz.f107 [.int .u8 a]=jX a:=az
def yo (a:Option Nat) (b:Int):T :=
 T.new [bq,aH 0] 69 fun c =>
 T.new [bq,aH 0] 69 fun d =>
 T.aC d [bq,aH b] <|
 bJ 93 [.map a] false [(false,[.func #[142] #[] false])] fun (e:Xab) =>
 bJ 92 [e] false [(false,[.slice 9])] fun f g h =>
 T.loop [aP] [vI 0] fun i =>
 bz i g
 (bf i g f fun j =>
 T.ah (j.add (aK i 1)) [.string] fun k =>
 bU (Instr.lookup 183 (.map a) (.string k) false) false [(false,[.int .u32])] fun l =>
 cond (l != (0:Int))
 (T.ah d [.slice 117] fun m n o =>
 bU (Instr.lookup 183 (.map a) (.string k) false) false [(false,[.int .u32])] fun p =>
 bt (Instr.buildSlice 66 1 #[(0,.agg #[.string k,aH p])]) fun q r s =>
 bt (Builtin.append_ #[66,66] 66 #[.slice m n o,.slice q r s]) fun t u v =>
 T.aC d [.slice t u v] <|
 T.again 0 [bg i])
 (T.again 0 [bg i]))
 (T.ah d (yL 117) fun j k l m =>
 T.aC c [.slice j k l,aH m] <|
 T.ah c (yL 117) fun n o p q =>
 T.ret (.agg #[.slice n o p,aH q]))
def zD (a:Option Nat) (b:Int):bM Tryz.prog [] Tryz.f94 [.map a,.int .u32 b]=yo a b:=az
def Aw (a:Xac) (b c:Nat) (d:Int) (e:Xac) (f g:Nat) (h:Int):T :=
 T.new [.slice a b c,aH d] 69 fun i =>
 T.new [.slice e f g,aH h] 69 fun j =>
 T.new [bq,aH 0] 69 fun k =>
 bU (Instr.makeMap 183 none) false [(false,[.map 0 0])] fun l =>
 T.ah i [.slice 117] fun m n o =>
 T.ah j [.slice 117] fun p q r =>
 bt (Instr.buildSlice 188 2 #[(0,.slice m n o),(1,.slice p q r)]) fun s t u =>
 T.loop [aP] [vI 0] fun v =>
 bz v t
 (bf v t s fun w =>
 T.ah (w.add (aK v 1)) [.slice 117] fun x y z =>
 T.loop [aP] [vI 0] fun A =>
 bz A y
 (bf A y x fun B =>
 T.ah (B.add (aK A 2)) [.string,.int .u32] fun C D =>
 T.new [bX,aH 0] 117 fun E =>
 T.aC E [.string C,aH D] <|
 T.ah E [.string] fun F =>
 bU (Instr.lookup 183 (.map l) (.string F) false) false [(false,[.int .u32])] fun G =>
 T.ah (E.add 1) [.int .u32] fun H =>
 T.ey Tryz.prog (Instr.mapUpdate 183 (.map l) (.string F) (aH (IntKind.wrap .u32 (G+H)))) <|
 T.again 1 [bg A])
 (T.again 0 [bg v]))
 (T.ah (i.add 1) [.int .u32] fun w =>
 T.ah (j.add 1) [.int .u32] fun x =>
 bJ 94 [.map l,aH (IntKind.wrap .u32 (w+x))] false [(true,(yL 117))] fun y z A B =>
 T.aC k [.slice y z A,aH B] <|
 T.ah k (yL 117) fun C D E F =>
 T.ret (.agg #[.slice C D E,aH F]))
def Bl (a:Xac) (b c:Nat) (d:Int) (e:Xac) (f g:Nat) (h:Int):bM Tryz.prog [] Tryz.f67 [.agg #[.slice a b c,.int .u32 d],.agg #[.slice e f g,.int .u32 h]]=Aw a b c d e f g h:=az
def j4 (a:Xac) (b c:Nat) (d:Int):T :=
 T.new [.slice a b c,aH d] 69 fun e =>
 T.loop [bR,aP] [.bool false,vI 0] fun f g =>
 T.ah e [.slice 117] fun h i j =>
 bz g i
 (T.ah e [.slice 117] fun k l m =>
 bf g l k fun n =>
 T.ah (n.add (aK g 2)) [.string] fun o =>
 aX 82 [.string o] fun p =>
 T.bj [(e,[.slice k l m])] <|
 cond (!p)
 bC
 (T.ah e [.slice 117] fun q r s =>
 bf g r q fun t =>
 T.ah ((t.add (aK g 2)).add 1) [.int .u32] fun u =>
 cond (u==(0:Int))
 bC
 (cond (decide (g>(0:Int)))
 (T.ah e [.slice 117] fun v w x =>
 bf g w v fun y =>
 T.ah (y.add (aK g 2)) [.string] fun z =>
 T.ah e [.slice 117] fun A B C =>
 T.need (((0:Int)<=(bm (g-(1:Int))))/\((bm (g-(1:Int)))<(B:Int))) <|
 T.bi A fun D =>
 T.ah (D.add ((Int.toNat (bm (g-(1:Int))))*2)) [.string] fun E =>
 cond ((Op.bytesLess (ByteArray.toList z) (ByteArray.toList E)) || ((ByteArray.toList z)==(ByteArray.toList E)))
 bC
 (T.again 0 [.bool f,bg g]))
 (T.again 0 [.bool f,bg g]))))
 dy
def oI (a:Xac) (b c:Nat) (d:Int):bM Tryz.prog [] Tryz.f97 [.agg #[.slice a b c,.int .u32 d]]=j4 a b c d:=az
def uV (a:Xac) (b c:Nat) (d:Int):T :=
 T.new [.slice a b c,aH d] 69 fun e =>
 T.ah e [.slice 117] fun f g h =>
 T.loop [bR,aP] [.bool false,vI 0] fun i j =>
 bz j g
 (bf j g f fun k =>
 T.ah (k.add (aK j 2)) [.string,.int .u32] fun l m =>
 T.new [bX,aH 0] 117 fun n =>
 T.aC n [.string l,aH m] <|
 T.ah (n.add 1) [.int .u32] fun o =>
 cond (o==(0:Int))
 bC
 (T.ah n [.string] fun p =>
 aX 60 [.string p] fun q =>
 T.bj [((n.add 1),[aH o])] <|
 cond (!q)
 bC
 (cond (decide (j>(0:Int)))
 (T.ah n [.string] fun r =>
 T.ah e [.slice 117] fun s t u =>
 T.need (((0:Int)<=(bm (j-(1:Int))))/\((bm (j-(1:Int)))<(t:Int))) <|
 T.bi s fun v =>
 T.ah (v.add ((Int.toNat (bm (j-(1:Int))))*2)) [.string] fun w =>
 cond ((Op.bytesLess (ByteArray.toList r) (ByteArray.toList w)) || ((ByteArray.toList r)==(ByteArray.toList w)))
 bC
 (T.again 0 [.bool i,bg j]))
 (T.again 0 [.bool i,bg j]))))
 dy
def yN (a:Xac) (b c:Nat) (d:Int):bM Tryz.prog [] Tryz.f61 [.agg #[.slice a b c,.int .u32 d]]=uV a b c d:=az
def ya (a:Xac) (b c:Nat) (d:Int) (e:Xac) (f g:Nat) (h:Int):T :=
 T.new [.slice a b c,aH d] 69 fun i =>
 T.new [.slice e f g,aH h] 69 fun j =>
 T.ah (i.add 1) [.int .u32] fun k =>
 T.ah (j.add 1) [.int .u32] fun l =>
 cond (k==l)
 (T.ah i [.slice 117] fun m n o =>
 T.ah j [.slice 117] fun p q r =>
 aX 113 [.slice m n o,.slice p q r] fun s =>
 T.ret (.bool s))
 bC
def Am (a:Xac) (b c:Nat) (d:Int) (e:Xac) (f g:Nat) (h:Int):bM Tryz.prog [] Tryz.f86 [.agg #[.slice a b c,.int .u32 d],.agg #[.slice e f g,.int .u32 h]]=ya a b c d e f g h:=az
def j7 (a:Xac) (b c:Nat) (d:Int) (e:Int):T :=
 T.new [.slice a b c,aH d] 69 fun f =>
 T.new [bq,aH 0] 69 fun g =>
 T.ah (f.add 1) [.int .u32] fun h =>
 T.new [bq,aH 0] 69 fun i =>
 T.aC i [bq,aH (IntKind.wrap .u32 (h*e))] <|
 T.loop [aP] [vI 0] fun j =>
 T.ah f [.slice 117] fun k l m =>
 bz j l
 (T.ah f [.slice 117] fun n o p =>
 bf j o n fun q =>
 T.ah ((q.add (aK j 2)).add 1) [.int .u32] fun r =>
 cond ((IntKind.wrap .u32 (r*e)) != (0:Int))
 (T.ah i [.slice 117] fun s t u =>
 T.ah f [.slice 117] fun v w x =>
 bf j w v fun y =>
 T.ah (y.add (aK j 2)) [.string] fun z =>
 bt (Instr.buildSlice 66 1 #[(0,.agg #[.string z,aH (IntKind.wrap .u32 (r*e))])]) fun A B C =>
 T.bj [((y.add (aK j 2)),[.string z]),(f,[.slice v w x]),(i,[.slice s t u])] <|
 bt (Builtin.append_ #[66,66] 66 #[.slice s t u,.slice A B C]) fun D E F =>
 T.bj [((y.add (aK j 2)),[.string z]),(f,[.slice v w x])] <|
 T.aC i [.slice D E F] <|
 T.again 0 [bg j])
 (T.again 0 [bg j]))
 (T.ah i (yL 117) fun n o p q =>
 T.aC g [.slice n o p,aH q] <|
 T.ah g (yL 117) fun r s t u =>
 T.ret (.agg #[.slice r s t,aH u]))
def oA (a:Xac) (b c:Nat) (d:Int) (e:Int):bM Tryz.prog [] Tryz.f102 [.agg #[.slice a b c,.int .u32 d],.int .u32 e]=j7 a b c d e:=az
def dZ (a:Xac) (b c:Nat) (d:Xac) (e f:Nat):T :=
 cond ((b:Int) != (e:Int))
 bC
 (T.loop [bR,aP] [.bool false,vI 0] fun g h =>
 bz h b
 (bf h b a fun i =>
 T.ah (i.add (aK h 2)) [.string,.int .u32] fun j k =>
 bf h e d fun l =>
 T.ah (l.add (aK h 2)) [.string,.int .u32] fun m n =>
 eA (Sx.kw (BinOp.neq) 117 (Operand.tmp 19) (Operand.tmp 23) (.agg #[.string j,aH k]) (.agg #[.string m,aH n])) fun o =>
 cond o
 bC
 (T.again 0 [.bool g,bg h]))
 dy)
def fQ (a:Xac) (b c:Nat) (d:Xac) (e f:Nat):bM Tryz.prog [] Tryz.f113 [.slice a b c,.slice d e f]=dZ a b c d e f:=az
def lX (a:Xac) (b c:Nat) (d:Int) (e:Xac) (f g:Nat) (h:Int):T :=
 T.new [.slice a b c,aH d] 69 fun i =>
 T.new [.slice e f g,aH h] 69 fun j =>
 T.new [bq,aH 0] 69 fun k =>
 T.ah (i.add 1) [.int .u32] fun l =>
 T.ah (j.add 1) [.int .u32] fun m =>
 T.new [bq,aH 0] 69 fun n =>
 T.aC n [bq,aH (IntKind.wrap .u32 (l+m))] <|
 T.loop [aP,aP] [vI 0,vI 0] fun o p =>
 T.join [bR]
 (T.ah i [.slice 117] fun q r s =>
 bz o r
 (T.again 1 [.bool true])
 (T.ah j [.slice 117] fun t u v =>
 T.again 1 [.bool (decide (p<(u:Int)))])) fun q =>
 cond q
 (T.join [bR]
 (T.ah j [.slice 117] fun r s t =>
 cond (p==(s:Int))
 (T.again 1 [.bool true])
 (T.ah i [.slice 117] fun u v w =>
 bz o v
 (T.ah i [.slice 117] fun x y z =>
 bf o y x fun A =>
 T.ah (A.add (aK o 2)) [.string] fun B =>
 T.ah j [.slice 117] fun C D E =>
 bf p D C fun F =>
 T.ah (F.add (aK p 2)) [.string] fun G =>
 T.again 1 [.bool (Op.bytesLess (ByteArray.toList B) (ByteArray.toList G))])
 (T.again 1 [.bool false]))) fun r =>
 cond r
 (T.ah n [.slice 117] fun s t u =>
 T.ah i [.slice 117] fun v w x =>
 bf o w v fun y =>
 T.ah (y.add (aK o 2)) [.string,.int .u32] fun z A =>
 bt (Instr.buildSlice 66 1 #[(0,.agg #[.string z,aH A])]) fun B C D =>
 T.bj [(i,[.slice v w x]),(n,[.slice s t u])] <|
 bt (Builtin.append_ #[66,66] 66 #[.slice s t u,.slice B C D]) fun E F G =>
 T.bj [((y.add (aK o 2)),[.string z,aH A]),(i,[.slice v w x])] <|
 T.aC n [.slice E F G] <|
 T.again 0 [bg o,vI p])
 (T.join [bR]
 (T.ah i [.slice 117] fun s t u =>
 cond (o==(t:Int))
 (T.again 1 [.bool true])
 (T.ah j [.slice 117] fun v w x =>
 bf p w v fun y =>
 T.ah (y.add (aK p 2)) [.string] fun z =>
 T.ah i [.slice 117] fun A B C =>
 bf o B A fun D =>
 T.ah (D.add (aK o 2)) [.string] fun E =>
 T.again 1 [.bool (Op.bytesLess (ByteArray.toList z) (ByteArray.toList E))])) fun s =>
 cond s
 (T.ah n [.slice 117] fun t u v =>
 T.ah j [.slice 117] fun w x y =>
 bf p x w fun z =>
 T.ah (z.add (aK p 2)) [.string,.int .u32] fun A B =>
 bt (Instr.buildSlice 66 1 #[(0,.agg #[.string A,aH B])]) fun C D E =>
 T.bj [(j,[.slice w x y]),(n,[.slice t u v])] <|
 bt (Builtin.append_ #[66,66] 66 #[.slice t u v,.slice C D E]) fun F G H =>
 T.bj [((z.add (aK p 2)),[.string A,aH B]),(j,[.slice w x y])] <|
 T.aC n [.slice F G H] <|
 T.again 0 [vI o,bg p])
 (T.ah i [.slice 117] fun t u v =>
 bf o u t fun w =>
 T.ah ((w.add (aK o 2)).add 1) [.int .u32] fun x =>
 T.ah j [.slice 117] fun y z A =>
 bf p z y fun B =>
 T.ah ((B.add (aK p 2)).add 1) [.int .u32] fun C =>
 T.join []
 (cond ((IntKind.wrap .u32 (x+C)) != (0:Int))
 (T.ah n [.slice 117] fun D E F =>
 T.ah i [.slice 117] fun G H I =>
 bf o H G fun J =>
 T.ah (J.add (aK o 2)) [.string] fun K =>
 bt (Instr.buildSlice 66 1 #[(0,.agg #[.string K,aH (IntKind.wrap .u32 (x+C))])]) fun L M N =>
 T.bj [((J.add (aK o 2)),[.string K]),(i,[.slice G H I]),(n,[.slice D E F])] <|
 bt (Builtin.append_ #[66,66] 66 #[.slice D E F,.slice L M N]) fun O P Q =>
 T.bj [((J.add (aK o 2)),[.string K]),(i,[.slice G H I])] <|
 T.aC n [.slice O P Q] <|
 T.again 1 [])
 (T.again 1 [])) <| T.again 0 [bg o,bg p])))
 (T.ah n (yL 117) fun r s t u =>
 T.aC k [.slice r s t,aH u] <|
 T.ah k (yL 117) fun v w x y =>
 T.ret (.agg #[.slice v w x,aH y]))
def qB (a:Xac) (b c:Nat) (d:Int) (e:Xac) (f g:Nat) (h:Int):bM Tryz.prog [4,5,8,1014] Tryz.f75 [.agg #[.slice a b c,.int .u32 d],.agg #[.slice e f g,.int .u32 h]]=lX a b c d e f g h:=az
end Go.Sx
