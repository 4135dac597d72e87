/- Trees of functions. No condition. -/
import Derived.Test.YthbffkdafjboiaaGreatDoorSxF
import Derived.Test.YthbffkdafjboiaaGreatDoorProg
import Derived.KernelRfl
set_option linter.all false
set_option maxRecDepth 100000
set_option maxHeartbeats 4000000
namespace Go.Sx
open Go.Proofs
def sM (a:Xaa) (b:Int):T :=
 T.call Tryz.prog 137 [.string a,.int .u8 b] false [(false,[.int .i64])] fun c =>
 T.ret (vI c)
def pj (a:Xaa) (b:Int):bT Tryz.prog [] Tryz.f114 [.string a,.int .u8 b]=sM a b:=ax
def iL (a:Xaa) (b:Int):T :=
 T.eh Tryz.prog (Sx.HF 153 #[.string a,.int .u8 b]) false [(false,[.int .i64])] fun c =>
 T.ret (vI c)
def gR (a:Xaa) (b:Int):bT Tryz.prog [] Tryz.f137 [.string a,.int .u8 b]=iL a b:=ax
def KG (a:Xaa) (b:Xaa):T :=
 T.loop [(false,[.int .i64])] [vI 0] fun c =>
 cond (decide (c<(a.size:Int)))
 (T.need (((0:Int)<=c)/\(c<(a.size:Int))) <|
 T.call Tryz.prog 114 [.string b,.int .u8 (cU a c)] false [(false,[.int .i64])] fun d =>
 cond (decide (d>=(0:Int)))
 (T.again 0 [vI (IntKind.wrap .i64 (c+(1:Int)))])
 (T.ret (vI c)))
 (T.ret (vI c))
def CT (a:Xaa) (b:Xaa):bT Tryz.prog [] Tryz.f88 [.string a,.string b]=KG a b:=ax
def qB (a:Xaa):T :=
 cond ((a.size:Int) != (2:Int))
 (bn #[vI 0,.bool false,.bool false])
 (T.need (iP 1 a.size) <|
 T.need (iP 0 a.size) <|
 cond ((cU a (0:Int))==(114:Int))
 (cond (decide ((bt ((bt (cU a (1:Int)))-(48:Int)))>=(0:Int)))
 (cond (decide ((bt ((bt (cU a (1:Int)))-(48:Int)))<(8:Int)))
 (bn #[vI (bt ((bt (cU a (1:Int)))-(48:Int))),.bool false,.bool true])
 (T.need (iP 0 a.size) <|
 cond ((cU a (0:Int))==(122:Int))
 (cond (decide ((bt ((bt (cU a (1:Int)))-(48:Int)))>=(0:Int)))
 (cond (decide ((bt ((bt (cU a (1:Int)))-(48:Int)))<(4:Int)))
 (bn #[vI (bt ((bt (cU a (1:Int)))-(48:Int))),.bool true,.bool true])
 (bn #[vI 0,.bool false,.bool false]))
 (bn #[vI 0,.bool false,.bool false]))
 (bn #[vI 0,.bool false,.bool false])))
 (T.need (iP 0 a.size) <|
 cond ((cU a (0:Int))==(122:Int))
 (cond (decide ((bt ((bt (cU a (1:Int)))-(48:Int)))>=(0:Int)))
 (cond (decide ((bt ((bt (cU a (1:Int)))-(48:Int)))<(4:Int)))
 (bn #[vI (bt ((bt (cU a (1:Int)))-(48:Int))),.bool true,.bool true])
 (bn #[vI 0,.bool false,.bool false]))
 (bn #[vI 0,.bool false,.bool false]))
 (bn #[vI 0,.bool false,.bool false])))
 (T.need (iP 0 a.size) <|
 cond ((cU a (0:Int))==(122:Int))
 (cond (decide ((bt ((bt (cU a (1:Int)))-(48:Int)))>=(0:Int)))
 (cond (decide ((bt ((bt (cU a (1:Int)))-(48:Int)))<(4:Int)))
 (bn #[vI (bt ((bt (cU a (1:Int)))-(48:Int))),.bool true,.bool true])
 (bn #[vI 0,.bool false,.bool false]))
 (bn #[vI 0,.bool false,.bool false]))
 (bn #[vI 0,.bool false,.bool false])))
def uW (a:Xaa):bT Tryz.prog [] Tryz.f87 [.string a]=qB a:=ax
def ya (a:Xaa):T :=
 bK 87 [.string a] true [aR,cn,cn] fun b c d =>
 cond (!((ByteArray.toList a)==[]))
 (cond (decide ((a.size:Int)<=(32:Int)))
 (cH 88 [.string a,.string ⟨#[97,98,99,100,101,102,103,104,105,106,107,108,109,110,111,112,113,114,115,116,117,118,119,120,121,122,65,66,67,68,69,70,71,72,73,74,75,76,77,78,79,80,81,82,83,84,85,86,87,88,89,90,95]⟩] fun e =>
 cond (decide (e>(0:Int)))
 (cH 88 [.string a,.string ⟨#[97,98,99,100,101,102,103,104,105,106,107,108,109,110,111,112,113,114,115,116,117,118,119,120,121,122,65,66,67,68,69,70,71,72,73,74,75,76,77,78,79,80,81,82,83,84,85,86,87,88,89,90,95,48,49,50,51,52,53,54,55,56,57]⟩] fun f =>
 cond (f==(a.size:Int))
 (T.ret (.bool (!d)))
 bI)
 bI)
 bI)
 bI
def zO (a:Xaa):bT Tryz.prog [] Tryz.f60 [.string a]=ya a:=ax
def iC (a:Xaa):T :=
 cond ((a.size:Int) != (2:Int))
 (bn #[vI 0,.bool false,.bool false])
 (T.need (iP 1 a.size) <|
 T.need (iP 0 a.size) <|
 cond ((cU a (0:Int))==(114:Int))
 (cond (decide ((bt ((bt (cU a (1:Int)))-(48:Int)))>=(0:Int)))
 (cond (decide ((bt ((bt (cU a (1:Int)))-(48:Int)))<=(7:Int)))
 (bn #[vI (bt ((bt (cU a (1:Int)))-(48:Int))),.bool false,.bool true])
 (T.need (iP 0 a.size) <|
 cond ((cU a (0:Int))==(122:Int))
 (cond (decide ((bt ((bt (cU a (1:Int)))-(48:Int)))>=(0:Int)))
 (cond (decide ((bt ((bt (cU a (1:Int)))-(48:Int)))<=(3:Int)))
 (bn #[vI (bt ((bt (cU a (1:Int)))-(48:Int))),.bool true,.bool true])
 (bn #[vI 0,.bool false,.bool false]))
 (bn #[vI 0,.bool false,.bool false]))
 (bn #[vI 0,.bool false,.bool false])))
 (T.need (iP 0 a.size) <|
 cond ((cU a (0:Int))==(122:Int))
 (cond (decide ((bt ((bt (cU a (1:Int)))-(48:Int)))>=(0:Int)))
 (cond (decide ((bt ((bt (cU a (1:Int)))-(48:Int)))<=(3:Int)))
 (bn #[vI (bt ((bt (cU a (1:Int)))-(48:Int))),.bool true,.bool true])
 (bn #[vI 0,.bool false,.bool false]))
 (bn #[vI 0,.bool false,.bool false]))
 (bn #[vI 0,.bool false,.bool false])))
 (T.need (iP 0 a.size) <|
 cond ((cU a (0:Int))==(122:Int))
 (cond (decide ((bt ((bt (cU a (1:Int)))-(48:Int)))>=(0:Int)))
 (cond (decide ((bt ((bt (cU a (1:Int)))-(48:Int)))<=(3:Int)))
 (bn #[vI (bt ((bt (cU a (1:Int)))-(48:Int))),.bool true,.bool true])
 (bn #[vI 0,.bool false,.bool false]))
 (bn #[vI 0,.bool false,.bool false]))
 (bn #[vI 0,.bool false,.bool false])))
def lS (a:Xaa):bT Tryz.prog [] Tryz.f108 [.string a]=iC a:=ax
def jQ (a:Xaa):T :=
 cond (decide ((a.size:Int)<(1:Int)))
 bI
 (cond (decide ((a.size:Int)>(32:Int)))
 bI
 (T.need (iP 0 a.size) <|
 aY 106 [.int .u8 (cU a (0:Int))] fun b =>
 cond (!b)
 bI
 (T.loop [cn,aR] [.bool false,vI 0] fun c d =>
 cond (decide (d<(a.size:Int)))
 (T.need (fx d a.size) <|
 aY 106 [.int .u8 (cU a d)] fun e =>
 cond (!e)
 (T.need (fx d a.size) <|
 aY 107 [.int .u8 (cU a d)] fun f =>
 cond (!f)
 bI
 (T.again 0 [.bool c,bk d]))
 (T.again 0 [.bool c,bk d]))
 (bK 108 [.string a] true [aR,cn,cn] fun e f g =>
 T.ret (.bool (!g))))))
def oF (a:Xaa):bT Tryz.prog [] Tryz.f82 [.string a]=jQ a:=ax
def je (a:Int):T :=
 cond (decide (a>=(97:Int)))
 (cond (decide (a<=(122:Int)))
 dP
 (cond (decide (a>=(65:Int)))
 (cond (decide (a<=(90:Int)))
 dP
 (T.ret (.bool (a==(95:Int)))))
 (T.ret (.bool (a==(95:Int))))))
 (cond (decide (a>=(65:Int)))
 (cond (decide (a<=(90:Int)))
 dP
 (T.ret (.bool (a==(95:Int)))))
 (T.ret (.bool (a==(95:Int)))))
def nu (a:Int):bT Tryz.prog [] Tryz.f106 [.int .u8 a]=je a:=ax
def jU (a:Int):T :=
 cond (decide (a>=(48:Int)))
 (T.ret (.bool (decide (a<=(57:Int)))))
 bI
def nW (a:Int):bT Tryz.prog [] Tryz.f107 [.int .u8 a]=jU a:=ax
def x8 (a:Option Nat) (b:Int):T :=
 T.new [bj,aG 0] 69 fun c =>
 T.new [bj,aG 0] 69 fun d =>
 T.aC d [bj,aG b] <|
 bK 93 [.map a] false [(false,[.func #[142] #[] false])] fun (e:Xab) =>
 bK 92 [e] false [(false,[.slice 9])] fun f g h =>
 T.loop [aR] [vI 0] fun i =>
 bH i g
 (bf i g f fun j =>
 T.ah (j.add (aP i 1)) [.string] fun k =>
 bU (Instr.lookup 183 (.map a) (.string k) false) false [(false,[.int .u32])] fun l =>
 cond (l != (0:Int))
 (T.ah d [.slice 117] fun m n o =>
 bU (Instr.lookup 183 (.map a) (.string k) false) false [(false,[.int .u32])] fun p =>
 br (Instr.buildSlice 66 1 #[(0,.agg #[.string k,aG p])]) fun q r s =>
 br (Builtin.append_ #[66,66] 66 #[.slice m n o,.slice q r s]) fun t u v =>
 T.aC d [.slice t u v] <|
 T.again 0 [bk i])
 (T.again 0 [bk i]))
 (T.ah d (yL 117) fun j k l m =>
 T.aC c [.slice j k l,aG m] <|
 T.ah c (yL 117) fun n o p q =>
 T.ret (.agg #[.slice n o p,aG q]))
def zy (a:Option Nat) (b:Int):bT Tryz.prog [] Tryz.f94 [.map a,.int .u32 b]=x8 a b:=ax
def Ag (a:Xac) (b c:Nat) (d:Int) (e:Xac) (f g:Nat) (h:Int):T :=
 T.new [.slice a b c,aG d] 69 fun i =>
 T.new [.slice e f g,aG h] 69 fun j =>
 T.new [bj,aG 0] 69 fun k =>
 bU (Instr.makeMap 183 none) false [(false,[.map 0 0])] fun l =>
 T.ah i [.slice 117] fun m n o =>
 T.ah j [.slice 117] fun p q r =>
 br (Instr.buildSlice 188 2 #[(0,.slice m n o),(1,.slice p q r)]) fun s t u =>
 T.loop [aR] [vI 0] fun v =>
 bH v t
 (bf v t s fun w =>
 T.ah (w.add (aP v 1)) [.slice 117] fun x y z =>
 T.loop [aR] [vI 0] fun A =>
 bH A y
 (bf A y x fun B =>
 T.ah (B.add (aP A 2)) [.string,.int .u32] fun C D =>
 T.new [bY,aG 0] 117 fun E =>
 T.aC E [.string C,aG D] <|
 T.ah E [.string] fun F =>
 bU (Instr.lookup 183 (.map l) (.string F) false) false [(false,[.int .u32])] fun G =>
 T.ah (E.add 1) [.int .u32] fun H =>
 T.et Tryz.prog (Instr.mapUpdate 183 (.map l) (.string F) (aG (IntKind.wrap .u32 (G+H)))) <|
 T.again 1 [bk A])
 (T.again 0 [bk v]))
 (T.ah (i.add 1) [.int .u32] fun w =>
 T.ah (j.add 1) [.int .u32] fun x =>
 bK 94 [.map l,aG (IntKind.wrap .u32 (w+x))] false [(true,(yL 117))] fun y z A B =>
 T.aC k [.slice y z A,aG B] <|
 T.ah k (yL 117) fun C D E F =>
 T.ret (.agg #[.slice C D E,aG F]))
def A0 (a:Xac) (b c:Nat) (d:Int) (e:Xac) (f g:Nat) (h:Int):bT Tryz.prog [] Tryz.f67 [.agg #[.slice a b c,.int .u32 d],.agg #[.slice e f g,.int .u32 h]]=Ag a b c d e f g h:=ax
def jZ (a:Xac) (b c:Nat) (d:Int):T :=
 T.new [.slice a b c,aG d] 69 fun e =>
 T.loop [cn,aR] [.bool false,vI 0] fun f g =>
 T.ah e [.slice 117] fun h i j =>
 bH g i
 (T.ah e [.slice 117] fun k l m =>
 bf g l k fun n =>
 T.ah (n.add (aP g 2)) [.string] fun o =>
 aY 82 [.string o] fun p =>
 T.bi [(e,[.slice k l m])] <|
 cond (!p)
 bI
 (T.ah e [.slice 117] fun q r s =>
 bf g r q fun t =>
 T.ah ((t.add (aP g 2)).add 1) [.int .u32] fun u =>
 cond (u==(0:Int))
 bI
 (cond (decide (g>(0:Int)))
 (T.ah e [.slice 117] fun v w x =>
 bf g w v fun y =>
 T.ah (y.add (aP g 2)) [.string] fun z =>
 T.ah e [.slice 117] fun A B C =>
 T.need (((0:Int)<=(bt (g-(1:Int))))/\((bt (g-(1:Int)))<(B:Int))) <|
 T.bG A fun D =>
 T.ah (D.add ((Int.toNat (bt (g-(1:Int))))*2)) [.string] fun E =>
 cond ((Op.bytesLess (ByteArray.toList z) (ByteArray.toList E)) || ((ByteArray.toList z)==(ByteArray.toList E)))
 bI
 (T.again 0 [.bool f,bk g]))
 (T.again 0 [.bool f,bk g]))))
 dP
def om (a:Xac) (b c:Nat) (d:Int):bT Tryz.prog [] Tryz.f97 [.agg #[.slice a b c,.int .u32 d]]=jZ a b c d:=ax
def uF (a:Xac) (b c:Nat) (d:Int):T :=
 T.new [.slice a b c,aG d] 69 fun e =>
 T.ah e [.slice 117] fun f g h =>
 T.loop [cn,aR] [.bool false,vI 0] fun i j =>
 bH j g
 (bf j g f fun k =>
 T.ah (k.add (aP j 2)) [.string,.int .u32] fun l m =>
 T.new [bY,aG 0] 117 fun n =>
 T.aC n [.string l,aG m] <|
 T.ah (n.add 1) [.int .u32] fun o =>
 cond (o==(0:Int))
 bI
 (T.ah n [.string] fun p =>
 aY 60 [.string p] fun q =>
 T.bi [((n.add 1),[aG o])] <|
 cond (!q)
 bI
 (cond (decide (j>(0:Int)))
 (T.ah n [.string] fun r =>
 T.ah e [.slice 117] fun s t u =>
 T.need (((0:Int)<=(bt (j-(1:Int))))/\((bt (j-(1:Int)))<(t:Int))) <|
 T.bG s fun v =>
 T.ah (v.add ((Int.toNat (bt (j-(1:Int))))*2)) [.string] fun w =>
 cond ((Op.bytesLess (ByteArray.toList r) (ByteArray.toList w)) || ((ByteArray.toList r)==(ByteArray.toList w)))
 bI
 (T.again 0 [.bool i,bk j]))
 (T.again 0 [.bool i,bk j]))))
 dP
def yx (a:Xac) (b c:Nat) (d:Int):bT Tryz.prog [] Tryz.f61 [.agg #[.slice a b c,.int .u32 d]]=uF a b c d:=ax
def xP (a:Xac) (b c:Nat) (d:Int) (e:Xac) (f g:Nat) (h:Int):T :=
 T.new [.slice a b c,aG d] 69 fun i =>
 T.new [.slice e f g,aG h] 69 fun j =>
 T.ah (i.add 1) [.int .u32] fun k =>
 T.ah (j.add 1) [.int .u32] fun l =>
 cond (k==l)
 (T.ah i [.slice 117] fun m n o =>
 T.ah j [.slice 117] fun p q r =>
 aY 113 [.slice m n o,.slice p q r] fun s =>
 T.ret (.bool s))
 bI
def Ab (a:Xac) (b c:Nat) (d:Int) (e:Xac) (f g:Nat) (h:Int):bT Tryz.prog [] Tryz.f86 [.agg #[.slice a b c,.int .u32 d],.agg #[.slice e f g,.int .u32 h]]=xP a b c d e f g h:=ax
def j1 (a:Xac) (b c:Nat) (d:Int) (e:Int):T :=
 T.new [.slice a b c,aG d] 69 fun f =>
 T.new [bj,aG 0] 69 fun g =>
 T.ah (f.add 1) [.int .u32] fun h =>
 T.new [bj,aG 0] 69 fun i =>
 T.aC i [bj,aG (IntKind.wrap .u32 (h*e))] <|
 T.loop [aR] [vI 0] fun j =>
 T.ah f [.slice 117] fun k l m =>
 bH j l
 (T.ah f [.slice 117] fun n o p =>
 bf j o n fun q =>
 T.ah ((q.add (aP j 2)).add 1) [.int .u32] fun r =>
 cond ((IntKind.wrap .u32 (r*e)) != (0:Int))
 (T.ah i [.slice 117] fun s t u =>
 T.ah f [.slice 117] fun v w x =>
 bf j w v fun y =>
 T.ah (y.add (aP j 2)) [.string] fun z =>
 br (Instr.buildSlice 66 1 #[(0,.agg #[.string z,aG (IntKind.wrap .u32 (r*e))])]) fun A B C =>
 T.bi [((y.add (aP j 2)),[.string z]),(f,[.slice v w x]),(i,[.slice s t u])] <|
 br (Builtin.append_ #[66,66] 66 #[.slice s t u,.slice A B C]) fun D E F =>
 T.bi [((y.add (aP j 2)),[.string z]),(f,[.slice v w x])] <|
 T.aC i [.slice D E F] <|
 T.again 0 [bk j])
 (T.again 0 [bk j]))
 (T.ah i (yL 117) fun n o p q =>
 T.aC g [.slice n o p,aG q] <|
 T.ah g (yL 117) fun r s t u =>
 T.ret (.agg #[.slice r s t,aG u]))
def nY (a:Xac) (b c:Nat) (d:Int) (e:Int):bT Tryz.prog [] Tryz.f102 [.agg #[.slice a b c,.int .u32 d],.int .u32 e]=j1 a b c d e:=ax
def ec (a:Xac) (b c:Nat) (d:Xac) (e f:Nat):T :=
 cond ((b:Int) != (e:Int))
 bI
 (T.loop [cn,aR] [.bool false,vI 0] fun g h =>
 bH h b
 (bf h b a fun i =>
 T.ah (i.add (aP h 2)) [.string,.int .u32] fun j k =>
 bf h e d fun l =>
 T.ah (l.add (aP h 2)) [.string,.int .u32] fun m n =>
 dN (Sx.jv (BinOp.neq) 117 (Operand.tmp 19) (Operand.tmp 23) (.agg #[.string j,aG k]) (.agg #[.string m,aG n])) fun o =>
 cond o
 bI
 (T.again 0 [.bool g,bk h]))
 dP)
def fS (a:Xac) (b c:Nat) (d:Xac) (e f:Nat):bT Tryz.prog [] Tryz.f113 [.slice a b c,.slice d e f]=ec a b c d e f:=ax
def lK (a:Xac) (b c:Nat) (d:Int) (e:Xac) (f g:Nat) (h:Int):T :=
 T.new [.slice a b c,aG d] 69 fun i =>
 T.new [.slice e f g,aG h] 69 fun j =>
 T.new [bj,aG 0] 69 fun k =>
 T.ah (i.add 1) [.int .u32] fun l =>
 T.ah (j.add 1) [.int .u32] fun m =>
 T.new [bj,aG 0] 69 fun n =>
 T.aC n [bj,aG (IntKind.wrap .u32 (l+m))] <|
 T.loop [aR,aR] [vI 0,vI 0] fun o p =>
 T.join [cn]
 (T.ah i [.slice 117] fun q r s =>
 bH o r
 (T.again 1 [.bool true])
 (T.ah j [.slice 117] fun t u v =>
 T.again 1 [.bool (decide (p<(u:Int)))])) fun q =>
 cond q
 (T.join [cn]
 (T.ah j [.slice 117] fun r s t =>
 cond (p==(s:Int))
 (T.again 1 [.bool true])
 (T.ah i [.slice 117] fun u v w =>
 bH o v
 (T.ah i [.slice 117] fun x y z =>
 bf o y x fun A =>
 T.ah (A.add (aP o 2)) [.string] fun B =>
 T.ah j [.slice 117] fun C D E =>
 bf p D C fun F =>
 T.ah (F.add (aP p 2)) [.string] fun G =>
 T.again 1 [.bool (Op.bytesLess (ByteArray.toList B) (ByteArray.toList G))])
 (T.again 1 [.bool false]))) fun r =>
 cond r
 (T.ah n [.slice 117] fun s t u =>
 T.ah i [.slice 117] fun v w x =>
 bf o w v fun y =>
 T.ah (y.add (aP o 2)) [.string,.int .u32] fun z A =>
 br (Instr.buildSlice 66 1 #[(0,.agg #[.string z,aG A])]) fun B C D =>
 T.bi [(i,[.slice v w x]),(n,[.slice s t u])] <|
 br (Builtin.append_ #[66,66] 66 #[.slice s t u,.slice B C D]) fun E F G =>
 T.bi [((y.add (aP o 2)),[.string z,aG A]),(i,[.slice v w x])] <|
 T.aC n [.slice E F G] <|
 T.again 0 [bk o,vI p])
 (T.join [cn]
 (T.ah i [.slice 117] fun s t u =>
 cond (o==(t:Int))
 (T.again 1 [.bool true])
 (T.ah j [.slice 117] fun v w x =>
 bf p w v fun y =>
 T.ah (y.add (aP p 2)) [.string] fun z =>
 T.ah i [.slice 117] fun A B C =>
 bf o B A fun D =>
 T.ah (D.add (aP o 2)) [.string] fun E =>
 T.again 1 [.bool (Op.bytesLess (ByteArray.toList z) (ByteArray.toList E))])) fun s =>
 cond s
 (T.ah n [.slice 117] fun t u v =>
 T.ah j [.slice 117] fun w x y =>
 bf p x w fun z =>
 T.ah (z.add (aP p 2)) [.string,.int .u32] fun A B =>
 br (Instr.buildSlice 66 1 #[(0,.agg #[.string A,aG B])]) fun C D E =>
 T.bi [(j,[.slice w x y]),(n,[.slice t u v])] <|
 br (Builtin.append_ #[66,66] 66 #[.slice t u v,.slice C D E]) fun F G H =>
 T.bi [((z.add (aP p 2)),[.string A,aG B]),(j,[.slice w x y])] <|
 T.aC n [.slice F G H] <|
 T.again 0 [vI o,bk p])
 (T.ah i [.slice 117] fun t u v =>
 bf o u t fun w =>
 T.ah ((w.add (aP o 2)).add 1) [.int .u32] fun x =>
 T.ah j [.slice 117] fun y z A =>
 bf p z y fun B =>
 T.ah ((B.add (aP p 2)).add 1) [.int .u32] fun C =>
 T.join []
 (cond ((IntKind.wrap .u32 (x+C)) != (0:Int))
 (T.ah n [.slice 117] fun D E F =>
 T.ah i [.slice 117] fun G H I =>
 bf o H G fun J =>
 T.ah (J.add (aP o 2)) [.string] fun K =>
 br (Instr.buildSlice 66 1 #[(0,.agg #[.string K,aG (IntKind.wrap .u32 (x+C))])]) fun L M N =>
 T.bi [((J.add (aP o 2)),[.string K]),(i,[.slice G H I]),(n,[.slice D E F])] <|
 br (Builtin.append_ #[66,66] 66 #[.slice D E F,.slice L M N]) fun O P Q =>
 T.bi [((J.add (aP o 2)),[.string K]),(i,[.slice G H I])] <|
 T.aC n [.slice O P Q] <|
 T.again 1 [])
 (T.again 1 [])) <| T.again 0 [bk o,bk p])))
 (T.ah n (yL 117) fun r s t u =>
 T.aC k [.slice r s t,aG u] <|
 T.ah k (yL 117) fun v w x y =>
 T.ret (.agg #[.slice v w x,aG y]))
def qj (a:Xac) (b c:Nat) (d:Int) (e:Xac) (f g:Nat) (h:Int):bT Tryz.prog [4,5,8,1014] Tryz.f75 [.agg #[.slice a b c,.int .u32 d],.agg #[.slice e f g,.int .u32 h]]=lK a b c d e f g h:=ax
end Go.Sx
