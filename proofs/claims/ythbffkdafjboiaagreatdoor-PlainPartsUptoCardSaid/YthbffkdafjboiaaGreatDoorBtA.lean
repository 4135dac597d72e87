/- Trees of functions. No condition. -/
import Derived.Test.YthbffkdafjboiaaGreatDoorSxF
import Derived.Test.YthbffkdafjboiaaGreatDoorProg
import Derived.KernelRfl
set_option linter.all false
set_option maxRecDepth 100000
set_option maxHeartbeats 4000000
namespace Go.Sx
open Go.Proofs
def r8 (a:ZA) (b:Int):T :=
 T.call Tryz.prog 137 [.string a,.int .u8 b] false [(false,[.int .i64])] fun c =>
 T.ret (vI c)
def oO (a:ZA) (b:Int):bQ Tryz.prog [] Tryz.f114 [.string a,.int .u8 b]=r8 a b:=az
def iD (a:ZA) (b:Int):T :=
 T.ek Tryz.prog (Sx.G3 153 #[.string a,.int .u8 b]) false [(false,[.int .i64])] fun c =>
 T.ret (vI c)
def gC (a:ZA) (b:Int):bQ Tryz.prog [] Tryz.f137 [.string a,.int .u8 b]=iD a b:=az
def JY (a:ZA) (b:ZA):T :=
 T.loop [(false,[.int .i64])] [vI 0] fun c =>
 cond (decide (c<(a.size:Int)))
 (T.need (((0:Int)<=c)/\(c<(a.size:Int))) <|
 T.call Tryz.prog 114 [.string b,.int .u8 (cR a c)] false [(false,[.int .i64])] fun d =>
 cond (decide (d>=(0:Int)))
 (T.again 0 [vI (IntKind.wrap .i64 (c+(1:Int)))])
 (T.ret (vI c)))
 (T.ret (vI c))
def Ci (a:ZA) (b:ZA):bQ Tryz.prog [] Tryz.f88 [.string a,.string b]=JY a b:=az
def qi (a:ZA):T :=
 cond ((a.size:Int) != (2:Int))
 (br #[vI 0,.bool false,.bool false])
 (T.need (iG 1 a.size) <|
 T.need (iG 0 a.size) <|
 cond ((cR a (0:Int))==(114:Int))
 (cond (decide ((bt ((bt (cR a (1:Int)))-(48:Int)))>=(0:Int)))
 (cond (decide ((bt ((bt (cR a (1:Int)))-(48:Int)))<(8:Int)))
 (br #[vI (bt ((bt (cR a (1:Int)))-(48:Int))),.bool false,.bool true])
 (T.need (iG 0 a.size) <|
 cond ((cR a (0:Int))==(122:Int))
 (cond (decide ((bt ((bt (cR a (1:Int)))-(48:Int)))>=(0:Int)))
 (cond (decide ((bt ((bt (cR a (1:Int)))-(48:Int)))<(4:Int)))
 (br #[vI (bt ((bt (cR a (1:Int)))-(48:Int))),.bool true,.bool true])
 (br #[vI 0,.bool false,.bool false]))
 (br #[vI 0,.bool false,.bool false]))
 (br #[vI 0,.bool false,.bool false])))
 (T.need (iG 0 a.size) <|
 cond ((cR a (0:Int))==(122:Int))
 (cond (decide ((bt ((bt (cR a (1:Int)))-(48:Int)))>=(0:Int)))
 (cond (decide ((bt ((bt (cR a (1:Int)))-(48:Int)))<(4:Int)))
 (br #[vI (bt ((bt (cR a (1:Int)))-(48:Int))),.bool true,.bool true])
 (br #[vI 0,.bool false,.bool false]))
 (br #[vI 0,.bool false,.bool false]))
 (br #[vI 0,.bool false,.bool false])))
 (T.need (iG 0 a.size) <|
 cond ((cR a (0:Int))==(122:Int))
 (cond (decide ((bt ((bt (cR a (1:Int)))-(48:Int)))>=(0:Int)))
 (cond (decide ((bt ((bt (cR a (1:Int)))-(48:Int)))<(4:Int)))
 (br #[vI (bt ((bt (cR a (1:Int)))-(48:Int))),.bool true,.bool true])
 (br #[vI 0,.bool false,.bool false]))
 (br #[vI 0,.bool false,.bool false]))
 (br #[vI 0,.bool false,.bool false])))
def ux (a:ZA):bQ Tryz.prog [] Tryz.f87 [.string a]=qi a:=az
def xJ (a:ZA):T :=
 bK 87 [.string a] true [aR,cg,cg] fun b c d =>
 cond (!((ByteArray.toList a)==[]))
 (cond (decide ((a.size:Int)<=(32:Int)))
 (cD 88 [.string a,.string ⟨#[97,98,99,100,101,102,103,104,105,106,107,108,109,110,111,112,113,114,115,116,117,118,119,120,121,122,65,66,67,68,69,70,71,72,73,74,75,76,77,78,79,80,81,82,83,84,85,86,87,88,89,90,95]⟩] fun e =>
 cond (decide (e>(0:Int)))
 (cD 88 [.string a,.string ⟨#[97,98,99,100,101,102,103,104,105,106,107,108,109,110,111,112,113,114,115,116,117,118,119,120,121,122,65,66,67,68,69,70,71,72,73,74,75,76,77,78,79,80,81,82,83,84,85,86,87,88,89,90,95,48,49,50,51,52,53,54,55,56,57]⟩] fun f =>
 cond (f==(a.size:Int))
 (T.ret (.bool (!d)))
 bC)
 bC)
 bC)
 bC
def zj (a:ZA):bQ Tryz.prog [] Tryz.f60 [.string a]=xJ a:=az
def ic (a:ZA):T :=
 cond ((a.size:Int) != (2:Int))
 (br #[vI 0,.bool false,.bool false])
 (T.need (iG 1 a.size) <|
 T.need (iG 0 a.size) <|
 cond ((cR a (0:Int))==(114:Int))
 (cond (decide ((bt ((bt (cR a (1:Int)))-(48:Int)))>=(0:Int)))
 (cond (decide ((bt ((bt (cR a (1:Int)))-(48:Int)))<=(7:Int)))
 (br #[vI (bt ((bt (cR a (1:Int)))-(48:Int))),.bool false,.bool true])
 (T.need (iG 0 a.size) <|
 cond ((cR a (0:Int))==(122:Int))
 (cond (decide ((bt ((bt (cR a (1:Int)))-(48:Int)))>=(0:Int)))
 (cond (decide ((bt ((bt (cR a (1:Int)))-(48:Int)))<=(3:Int)))
 (br #[vI (bt ((bt (cR a (1:Int)))-(48:Int))),.bool true,.bool true])
 (br #[vI 0,.bool false,.bool false]))
 (br #[vI 0,.bool false,.bool false]))
 (br #[vI 0,.bool false,.bool false])))
 (T.need (iG 0 a.size) <|
 cond ((cR a (0:Int))==(122:Int))
 (cond (decide ((bt ((bt (cR a (1:Int)))-(48:Int)))>=(0:Int)))
 (cond (decide ((bt ((bt (cR a (1:Int)))-(48:Int)))<=(3:Int)))
 (br #[vI (bt ((bt (cR a (1:Int)))-(48:Int))),.bool true,.bool true])
 (br #[vI 0,.bool false,.bool false]))
 (br #[vI 0,.bool false,.bool false]))
 (br #[vI 0,.bool false,.bool false])))
 (T.need (iG 0 a.size) <|
 cond ((cR a (0:Int))==(122:Int))
 (cond (decide ((bt ((bt (cR a (1:Int)))-(48:Int)))>=(0:Int)))
 (cond (decide ((bt ((bt (cR a (1:Int)))-(48:Int)))<=(3:Int)))
 (br #[vI (bt ((bt (cR a (1:Int)))-(48:Int))),.bool true,.bool true])
 (br #[vI 0,.bool false,.bool false]))
 (br #[vI 0,.bool false,.bool false]))
 (br #[vI 0,.bool false,.bool false])))
def lK (a:ZA):bQ Tryz.prog [] Tryz.f108 [.string a]=ic a:=az
def jE (a:ZA):T :=
 cond (decide ((a.size:Int)<(1:Int)))
 bC
 (cond (decide ((a.size:Int)>(32:Int)))
 bC
 (T.need (iG 0 a.size) <|
 aT 106 [.int .u8 (cR a (0:Int))] fun b =>
 cond (!b)
 bC
 (T.loop [cg,aR] [.bool false,vI 0] fun c d =>
 cond (decide (d<(a.size:Int)))
 (T.need (fo d a.size) <|
 aT 106 [.int .u8 (cR a d)] fun e =>
 cond (!e)
 (T.need (fo d a.size) <|
 aT 107 [.int .u8 (cR a d)] fun f =>
 cond (!f)
 bC
 (T.again 0 [.bool c,bh d]))
 (T.again 0 [.bool c,bh d]))
 (bK 108 [.string a] true [aR,cg,cg] fun e f g =>
 T.ret (.bool (!g))))))
def om (a:ZA):bQ Tryz.prog [] Tryz.f82 [.string a]=jE a:=az
def iV (a:Int):T :=
 cond (decide (a>=(97:Int)))
 (cond (decide (a<=(122:Int)))
 dL
 (cond (decide (a>=(65:Int)))
 (cond (decide (a<=(90:Int)))
 dL
 (T.ret (.bool (a==(95:Int)))))
 (T.ret (.bool (a==(95:Int))))))
 (cond (decide (a>=(65:Int)))
 (cond (decide (a<=(90:Int)))
 dL
 (T.ret (.bool (a==(95:Int)))))
 (T.ret (.bool (a==(95:Int)))))
def mY (a:Int):bQ Tryz.prog [] Tryz.f106 [.int .u8 a]=iV a:=az
def jJ (a:Int):T :=
 cond (decide (a>=(48:Int)))
 (T.ret (.bool (decide (a<=(57:Int)))))
 bC
def nI (a:Int):bQ Tryz.prog [] Tryz.f107 [.int .u8 a]=jJ a:=az
def xI (a:Option Nat) (b:Int):T :=
 T.new [bi,aH 0] 69 fun c =>
 T.new [bi,aH 0] 69 fun d =>
 T.aE d [bi,aH b] <|
 bK 93 [.map a] false [(false,[.func #[142] #[] false])] fun (e:ZB) =>
 bK 92 [e] false [(false,[.slice 9])] fun f g h =>
 T.loop [aR] [vI 0] fun i =>
 bG i g
 (bf i g f fun j =>
 T.ah (j.add (aQ i 1)) [.string] fun k =>
 bR (Instr.lookup 183 (.map a) (.string k) false) false [(false,[.int .u32])] fun l =>
 cond (l != (0:Int))
 (T.ah d [.slice 117] fun m n o =>
 bR (Instr.lookup 183 (.map a) (.string k) false) false [(false,[.int .u32])] fun p =>
 bm (Instr.buildSlice 66 1 #[(0,.agg #[.string k,aH p])]) fun q r s =>
 bm (Builtin.append_ #[66,66] 66 #[.slice m n o,.slice q r s]) fun t u v =>
 T.aE d [.slice t u v] <|
 T.again 0 [bh i])
 (T.again 0 [bh i]))
 (T.ah d (yL 117) fun j k l m =>
 T.aE c [.slice j k l,aH m] <|
 T.ah c (yL 117) fun n o p q =>
 T.ret (.agg #[.slice n o p,aH q]))
def yV (a:Option Nat) (b:Int):bQ Tryz.prog [] Tryz.f94 [.map a,.int .u32 b]=xI a b:=az
def zG (a:ZC) (b c:Nat) (d:Int) (e:ZC) (f g:Nat) (h:Int):T :=
 T.new [.slice a b c,aH d] 69 fun i =>
 T.new [.slice e f g,aH h] 69 fun j =>
 T.new [bi,aH 0] 69 fun k =>
 bR (Instr.makeMap 183 none) false [(false,[.map 0 0])] fun l =>
 T.ah i [.slice 117] fun m n o =>
 T.ah j [.slice 117] fun p q r =>
 bm (Instr.buildSlice 188 2 #[(0,.slice m n o),(1,.slice p q r)]) fun s t u =>
 T.loop [aR] [vI 0] fun v =>
 bG v t
 (bf v t s fun w =>
 T.ah (w.add (aQ v 1)) [.slice 117] fun x y z =>
 T.loop [aR] [vI 0] fun A =>
 bG A y
 (bf A y x fun B =>
 T.ah (B.add (aQ A 2)) [.string,.int .u32] fun C D =>
 T.new [bT,aH 0] 117 fun E =>
 T.aE E [.string C,aH D] <|
 T.ah E [.string] fun F =>
 bR (Instr.lookup 183 (.map l) (.string F) false) false [(false,[.int .u32])] fun G =>
 T.ah (E.add 1) [.int .u32] fun H =>
 T.ei Tryz.prog (Instr.mapUpdate 183 (.map l) (.string F) (aH (IntKind.wrap .u32 (G+H)))) <|
 T.again 1 [bh A])
 (T.again 0 [bh v]))
 (T.ah (i.add 1) [.int .u32] fun w =>
 T.ah (j.add 1) [.int .u32] fun x =>
 bK 94 [.map l,aH (IntKind.wrap .u32 (w+x))] false [(true,(yL 117))] fun y z A B =>
 T.aE k [.slice y z A,aH B] <|
 T.ah k (yL 117) fun C D E F =>
 T.ret (.agg #[.slice C D E,aH F]))
def Av (a:ZC) (b c:Nat) (d:Int) (e:ZC) (f g:Nat) (h:Int):bQ Tryz.prog [] Tryz.f67 [.agg #[.slice a b c,.int .u32 d],.agg #[.slice e f g,.int .u32 h]]=zG a b c d e f g h:=az
def jP (a:ZC) (b c:Nat) (d:Int):T :=
 T.new [.slice a b c,aH d] 69 fun e =>
 T.loop [cg,aR] [.bool false,vI 0] fun f g =>
 T.ah e [.slice 117] fun h i j =>
 bG g i
 (T.ah e [.slice 117] fun k l m =>
 bf g l k fun n =>
 T.ah (n.add (aQ g 2)) [.string] fun o =>
 aT 82 [.string o] fun p =>
 T.bj [(e,[.slice k l m])] <|
 cond (!p)
 bC
 (T.ah e [.slice 117] fun q r s =>
 bf g r q fun t =>
 T.ah ((t.add (aQ g 2)).add 1) [.int .u32] fun u =>
 cond (u==(0:Int))
 bC
 (cond (decide (g>(0:Int)))
 (T.ah e [.slice 117] fun v w x =>
 bf g w v fun y =>
 T.ah (y.add (aQ g 2)) [.string] fun z =>
 T.ah e [.slice 117] fun A B C =>
 T.need (((0:Int)<=(bt (g-(1:Int))))/\((bt (g-(1:Int)))<(B:Int))) <|
 T.bF A fun D =>
 T.ah (D.add ((Int.toNat (bt (g-(1:Int))))*2)) [.string] fun E =>
 cond ((Op.bytesLess (ByteArray.toList z) (ByteArray.toList E)) || ((ByteArray.toList z)==(ByteArray.toList E)))
 bC
 (T.again 0 [.bool f,bh g]))
 (T.again 0 [.bool f,bh g]))))
 dL
def nS (a:ZC) (b c:Nat) (d:Int):bQ Tryz.prog [] Tryz.f97 [.agg #[.slice a b c,.int .u32 d]]=jP a b c d:=az
def ue (a:ZC) (b c:Nat) (d:Int):T :=
 T.new [.slice a b c,aH d] 69 fun e =>
 T.ah e [.slice 117] fun f g h =>
 T.loop [cg,aR] [.bool false,vI 0] fun i j =>
 bG j g
 (bf j g f fun k =>
 T.ah (k.add (aQ j 2)) [.string,.int .u32] fun l m =>
 T.new [bT,aH 0] 117 fun n =>
 T.aE n [.string l,aH m] <|
 T.ah (n.add 1) [.int .u32] fun o =>
 cond (o==(0:Int))
 bC
 (T.ah n [.string] fun p =>
 aT 60 [.string p] fun q =>
 T.bj [((n.add 1),[aH o])] <|
 cond (!q)
 bC
 (cond (decide (j>(0:Int)))
 (T.ah n [.string] fun r =>
 T.ah e [.slice 117] fun s t u =>
 T.need (((0:Int)<=(bt (j-(1:Int))))/\((bt (j-(1:Int)))<(t:Int))) <|
 T.bF s fun v =>
 T.ah (v.add ((Int.toNat (bt (j-(1:Int))))*2)) [.string] fun w =>
 cond ((Op.bytesLess (ByteArray.toList r) (ByteArray.toList w)) || ((ByteArray.toList r)==(ByteArray.toList w)))
 bC
 (T.again 0 [.bool i,bh j]))
 (T.again 0 [.bool i,bh j]))))
 dL
def ya (a:ZC) (b c:Nat) (d:Int):bQ Tryz.prog [] Tryz.f61 [.agg #[.slice a b c,.int .u32 d]]=ue a b c d:=az
def xv (a:ZC) (b c:Nat) (d:Int) (e:ZC) (f g:Nat) (h:Int):T :=
 T.new [.slice a b c,aH d] 69 fun i =>
 T.new [.slice e f g,aH h] 69 fun j =>
 T.ah (i.add 1) [.int .u32] fun k =>
 T.ah (j.add 1) [.int .u32] fun l =>
 cond (k==l)
 (T.ah i [.slice 117] fun m n o =>
 T.ah j [.slice 117] fun p q r =>
 aT 113 [.slice m n o,.slice p q r] fun s =>
 T.ret (.bool s))
 bC
def zz (a:ZC) (b c:Nat) (d:Int) (e:ZC) (f g:Nat) (h:Int):bQ Tryz.prog [] Tryz.f86 [.agg #[.slice a b c,.int .u32 d],.agg #[.slice e f g,.int .u32 h]]=xv a b c d e f g h:=az
def jR (a:ZC) (b c:Nat) (d:Int) (e:Int):T :=
 T.new [.slice a b c,aH d] 69 fun f =>
 T.new [bi,aH 0] 69 fun g =>
 T.ah (f.add 1) [.int .u32] fun h =>
 T.new [bi,aH 0] 69 fun i =>
 T.aE i [bi,aH (IntKind.wrap .u32 (h*e))] <|
 T.loop [aR] [vI 0] fun j =>
 T.ah f [.slice 117] fun k l m =>
 bG j l
 (T.ah f [.slice 117] fun n o p =>
 bf j o n fun q =>
 T.ah ((q.add (aQ j 2)).add 1) [.int .u32] fun r =>
 cond ((IntKind.wrap .u32 (r*e)) != (0:Int))
 (T.ah i [.slice 117] fun s t u =>
 T.ah f [.slice 117] fun v w x =>
 bf j w v fun y =>
 T.ah (y.add (aQ j 2)) [.string] fun z =>
 bm (Instr.buildSlice 66 1 #[(0,.agg #[.string z,aH (IntKind.wrap .u32 (r*e))])]) fun A B C =>
 T.bj [((y.add (aQ j 2)),[.string z]),(f,[.slice v w x]),(i,[.slice s t u])] <|
 bm (Builtin.append_ #[66,66] 66 #[.slice s t u,.slice A B C]) fun D E F =>
 T.bj [((y.add (aQ j 2)),[.string z]),(f,[.slice v w x])] <|
 T.aE i [.slice D E F] <|
 T.again 0 [bh j])
 (T.again 0 [bh j]))
 (T.ah i (yL 117) fun n o p q =>
 T.aE g [.slice n o p,aH q] <|
 T.ah g (yL 117) fun r s t u =>
 T.ret (.agg #[.slice r s t,aH u]))
def nJ (a:ZC) (b c:Nat) (d:Int) (e:Int):bQ Tryz.prog [] Tryz.f102 [.agg #[.slice a b c,.int .u32 d],.int .u32 e]=jR a b c d e:=az
def dX (a:ZC) (b c:Nat) (d:ZC) (e f:Nat):T :=
 cond ((b:Int) != (e:Int))
 bC
 (T.loop [cg,aR] [.bool false,vI 0] fun g h =>
 bG h b
 (bf h b a fun i =>
 T.ah (i.add (aQ h 2)) [.string,.int .u32] fun j k =>
 bf h e d fun l =>
 T.ah (l.add (aQ h 2)) [.string,.int .u32] fun m n =>
 dr (Sx.ir (BinOp.neq) 117 (Operand.tmp 19) (Operand.tmp 23) (.agg #[.string j,aH k]) (.agg #[.string m,aH n])) fun o =>
 cond o
 bC
 (T.again 0 [.bool g,bh h]))
 dL)
def fN (a:ZC) (b c:Nat) (d:ZC) (e f:Nat):bQ Tryz.prog [] Tryz.f113 [.slice a b c,.slice d e f]=dX a b c d e f:=az
def ly (a:ZC) (b c:Nat) (d:Int) (e:ZC) (f g:Nat) (h:Int):T :=
 T.new [.slice a b c,aH d] 69 fun i =>
 T.new [.slice e f g,aH h] 69 fun j =>
 T.new [bi,aH 0] 69 fun k =>
 T.ah (i.add 1) [.int .u32] fun l =>
 T.ah (j.add 1) [.int .u32] fun m =>
 T.new [bi,aH 0] 69 fun n =>
 T.aE n [bi,aH (IntKind.wrap .u32 (l+m))] <|
 T.loop [aR,aR] [vI 0,vI 0] fun o p =>
 T.join [cg]
 (T.ah i [.slice 117] fun q r s =>
 bG o r
 (T.again 1 [.bool true])
 (T.ah j [.slice 117] fun t u v =>
 T.again 1 [.bool (decide (p<(u:Int)))])) fun q =>
 cond q
 (T.join [cg]
 (T.ah j [.slice 117] fun r s t =>
 cond (p==(s:Int))
 (T.again 1 [.bool true])
 (T.ah i [.slice 117] fun u v w =>
 bG o v
 (T.ah i [.slice 117] fun x y z =>
 bf o y x fun A =>
 T.ah (A.add (aQ o 2)) [.string] fun B =>
 T.ah j [.slice 117] fun C D E =>
 bf p D C fun F =>
 T.ah (F.add (aQ p 2)) [.string] fun G =>
 T.again 1 [.bool (Op.bytesLess (ByteArray.toList B) (ByteArray.toList G))])
 (T.again 1 [.bool false]))) fun r =>
 cond r
 (T.ah n [.slice 117] fun s t u =>
 T.ah i [.slice 117] fun v w x =>
 bf o w v fun y =>
 T.ah (y.add (aQ o 2)) [.string,.int .u32] fun z A =>
 bm (Instr.buildSlice 66 1 #[(0,.agg #[.string z,aH A])]) fun B C D =>
 T.bj [(i,[.slice v w x]),(n,[.slice s t u])] <|
 bm (Builtin.append_ #[66,66] 66 #[.slice s t u,.slice B C D]) fun E F G =>
 T.bj [((y.add (aQ o 2)),[.string z,aH A]),(i,[.slice v w x])] <|
 T.aE n [.slice E F G] <|
 T.again 0 [bh o,vI p])
 (T.join [cg]
 (T.ah i [.slice 117] fun s t u =>
 cond (o==(t:Int))
 (T.again 1 [.bool true])
 (T.ah j [.slice 117] fun v w x =>
 bf p w v fun y =>
 T.ah (y.add (aQ p 2)) [.string] fun z =>
 T.ah i [.slice 117] fun A B C =>
 bf o B A fun D =>
 T.ah (D.add (aQ o 2)) [.string] fun E =>
 T.again 1 [.bool (Op.bytesLess (ByteArray.toList z) (ByteArray.toList E))])) fun s =>
 cond s
 (T.ah n [.slice 117] fun t u v =>
 T.ah j [.slice 117] fun w x y =>
 bf p x w fun z =>
 T.ah (z.add (aQ p 2)) [.string,.int .u32] fun A B =>
 bm (Instr.buildSlice 66 1 #[(0,.agg #[.string A,aH B])]) fun C D E =>
 T.bj [(j,[.slice w x y]),(n,[.slice t u v])] <|
 bm (Builtin.append_ #[66,66] 66 #[.slice t u v,.slice C D E]) fun F G H =>
 T.bj [((z.add (aQ p 2)),[.string A,aH B]),(j,[.slice w x y])] <|
 T.aE n [.slice F G H] <|
 T.again 0 [vI o,bh p])
 (T.ah i [.slice 117] fun t u v =>
 bf o u t fun w =>
 T.ah ((w.add (aQ o 2)).add 1) [.int .u32] fun x =>
 T.ah j [.slice 117] fun y z A =>
 bf p z y fun B =>
 T.ah ((B.add (aQ p 2)).add 1) [.int .u32] fun C =>
 T.join []
 (cond ((IntKind.wrap .u32 (x+C)) != (0:Int))
 (T.ah n [.slice 117] fun D E F =>
 T.ah i [.slice 117] fun G H I =>
 bf o H G fun J =>
 T.ah (J.add (aQ o 2)) [.string] fun K =>
 bm (Instr.buildSlice 66 1 #[(0,.agg #[.string K,aH (IntKind.wrap .u32 (x+C))])]) fun L M N =>
 T.bj [((J.add (aQ o 2)),[.string K]),(i,[.slice G H I]),(n,[.slice D E F])] <|
 bm (Builtin.append_ #[66,66] 66 #[.slice D E F,.slice L M N]) fun O P Q =>
 T.bj [((J.add (aQ o 2)),[.string K]),(i,[.slice G H I])] <|
 T.aE n [.slice O P Q] <|
 T.again 1 [])
 (T.again 1 [])) <| T.again 0 [bh o,bh p])))
 (T.ah n (yL 117) fun r s t u =>
 T.aE k [.slice r s t,aH u] <|
 T.ah k (yL 117) fun v w x y =>
 T.ret (.agg #[.slice v w x,aH y]))
def pS (a:ZC) (b c:Nat) (d:Int) (e:ZC) (f g:Nat) (h:Int):bQ Tryz.prog [4,5,8,1014] Tryz.f75 [.agg #[.slice a b c,.int .u32 d],.agg #[.slice e f g,.int .u32 h]]=ly a b c d e f g h:=az
end Go.Sx
