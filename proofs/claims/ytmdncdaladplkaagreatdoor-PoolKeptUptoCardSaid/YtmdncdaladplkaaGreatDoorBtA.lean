/- Trees of functions. No condition. -/
import Derived.Test.YtmdncdaladplkaaGreatDoorSxF
import Derived.Test.YtmdncdaladplkaaGreatDoorProg
import Derived.KernelRfl
set_option linter.all false
set_option maxRecDepth 100000
set_option maxHeartbeats 4000000
namespace Go.Sx
open Go.Proofs
def uK (a:Xaa) (b:Int):T :=
 T.call Xaz 139 [.string a,.int .u8 b] false [(false,[.int .i64])] λc =>
 T.ret (vI c)
def qT (a:Xaa) (b:Int):bP Xaz [] Tryz.f113 [.string a,.int .u8 b]=uK a b:=av
def ju (a:Xaa) (b:Int):T :=
 T.dP Xaz (Sx.Km 157 #[.string a,.int .u8 b]) false [(false,[.int .i64])] λc =>
 T.ret (vI c)
def iM (a:Xaa) (b:Int):bP Xaz [] Tryz.f139 [.string a,.int .u8 b]=ju a b:=av
def NP (a b:Xaa):T :=
 T.loop [(false,[.int .i64])] [vI 0] λc =>
 cond (decide (c<(a.size:Int)))
 (T.need ((0<=c)/\(c<(a.size:Int))) <|
 T.call Xaz 113 [.string b,.int .u8 (dh a c)] false [(false,[.int .i64])] λd =>
 cond (decide (d>=0))
 (T.again 0 [vI (IntKind.wrap .i64 (c+1))])
 (T.ret (vI c)))
 (T.ret (vI c))
def ET (a b:Xaa):bP Xaz [] Tryz.f84 [.string a,.string b]=NP a b:=av
def sD (a:Xaa):T :=
 cond ((a.size:Int) != 2)
 (bR #[vI 0,.bool false,.bool false])
 (T.need (jc 1 a.size) <|
 T.need (jc 0 a.size) <|
 cond ((dh a 0)==114)
 (cond (decide ((bY ((bY (dh a 1))-48))>=0))
 (cond (decide ((bY ((bY (dh a 1))-48))<8))
 (bR #[vI (bY ((bY (dh a 1))-48)),.bool false,.bool true])
 (T.need (jc 0 a.size) <|
 cond ((dh a 0)==122)
 (cond (decide ((bY ((bY (dh a 1))-48))>=0))
 (cond (decide ((bY ((bY (dh a 1))-48))<4))
 (bR #[vI (bY ((bY (dh a 1))-48)),.bool true,.bool true])
 (bR #[vI 0,.bool false,.bool false]))
 (bR #[vI 0,.bool false,.bool false]))
 (bR #[vI 0,.bool false,.bool false])))
 (T.need (jc 0 a.size) <|
 cond ((dh a 0)==122)
 (cond (decide ((bY ((bY (dh a 1))-48))>=0))
 (cond (decide ((bY ((bY (dh a 1))-48))<4))
 (bR #[vI (bY ((bY (dh a 1))-48)),.bool true,.bool true])
 (bR #[vI 0,.bool false,.bool false]))
 (bR #[vI 0,.bool false,.bool false]))
 (bR #[vI 0,.bool false,.bool false])))
 (T.need (jc 0 a.size) <|
 cond ((dh a 0)==122)
 (cond (decide ((bY ((bY (dh a 1))-48))>=0))
 (cond (decide ((bY ((bY (dh a 1))-48))<4))
 (bR #[vI (bY ((bY (dh a 1))-48)),.bool true,.bool true])
 (bR #[vI 0,.bool false,.bool false]))
 (bR #[vI 0,.bool false,.bool false]))
 (bR #[vI 0,.bool false,.bool false])))
def xd (a:Xaa):bP Xaz [] Tryz.f83 [.string a]=sD a:=av
def zP (a:Xaa):T :=
 cv 83 [.string a] true [aS,cH,cH] λb c d =>
 cond (!((ByteArray.toList a)==[]))
 (cond (decide ((a.size:Int)<=32))
 (cY 84 [.string a,.string ⟨#[97,98,99,100,101,102,103,104,105,106,107,108,109,110,111,112,113,114,115,116,117,118,119,120,121,122,65,66,67,68,69,70,71,72,73,74,75,76,77,78,79,80,81,82,83,84,85,86,87,88,89,90,95]⟩] λe =>
 cond (decide (e>0))
 (cY 84 [.string a,.string ⟨#[97,98,99,100,101,102,103,104,105,106,107,108,109,110,111,112,113,114,115,116,117,118,119,120,121,122,65,66,67,68,69,70,71,72,73,74,75,76,77,78,79,80,81,82,83,84,85,86,87,88,89,90,95,48,49,50,51,52,53,54,55,56,57]⟩] λf =>
 cond (f==(a.size:Int))
 (T.ret (.bool (!d)))
 cC)
 cC)
 cC)
 cC
def Bx (a:Xaa):bP Xaz [] Tryz.f55 [.string a]=zP a:=av
def jl (a:Xaa):T :=
 cond ((a.size:Int) != 2)
 (bR #[vI 0,.bool false,.bool false])
 (T.need (jc 1 a.size) <|
 T.need (jc 0 a.size) <|
 cond ((dh a 0)==114)
 (cond (decide ((bY ((bY (dh a 1))-48))>=0))
 (cond (decide ((bY ((bY (dh a 1))-48))<=7))
 (bR #[vI (bY ((bY (dh a 1))-48)),.bool false,.bool true])
 (T.need (jc 0 a.size) <|
 cond ((dh a 0)==122)
 (cond (decide ((bY ((bY (dh a 1))-48))>=0))
 (cond (decide ((bY ((bY (dh a 1))-48))<=3))
 (bR #[vI (bY ((bY (dh a 1))-48)),.bool true,.bool true])
 (bR #[vI 0,.bool false,.bool false]))
 (bR #[vI 0,.bool false,.bool false]))
 (bR #[vI 0,.bool false,.bool false])))
 (T.need (jc 0 a.size) <|
 cond ((dh a 0)==122)
 (cond (decide ((bY ((bY (dh a 1))-48))>=0))
 (cond (decide ((bY ((bY (dh a 1))-48))<=3))
 (bR #[vI (bY ((bY (dh a 1))-48)),.bool true,.bool true])
 (bR #[vI 0,.bool false,.bool false]))
 (bR #[vI 0,.bool false,.bool false]))
 (bR #[vI 0,.bool false,.bool false])))
 (T.need (jc 0 a.size) <|
 cond ((dh a 0)==122)
 (cond (decide ((bY ((bY (dh a 1))-48))>=0))
 (cond (decide ((bY ((bY (dh a 1))-48))<=3))
 (bR #[vI (bY ((bY (dh a 1))-48)),.bool true,.bool true])
 (bR #[vI 0,.bool false,.bool false]))
 (bR #[vI 0,.bool false,.bool false]))
 (bR #[vI 0,.bool false,.bool false])))
def nJ (a:Xaa):bP Xaz [] Tryz.f107 [.string a]=jl a:=av
def kM (a:Xaa):T :=
 cond (decide ((a.size:Int)<1))
 cC
 (cond (decide ((a.size:Int)>32))
 cC
 (T.need (jc 0 a.size) <|
 bj 105 [.int .u8 (dh a 0)] λb =>
 cond (!b)
 cC
 (T.loop [cH,aS] [.bool false,vI 0] λc d =>
 cond (decide (d<(a.size:Int)))
 (T.need (IT d a.size) <|
 bj 105 [.int .u8 (dh a d)] λe =>
 cond (!e)
 (T.need (IT d a.size) <|
 bj 106 [.int .u8 (dh a d)] λf =>
 cond (!f)
 cC
 (T.again 0 [.bool c,aY d]))
 (T.again 0 [.bool c,aY d]))
 (cv 107 [.string a] true [aS,cH,cH] λe f g =>
 T.ret (.bool (!g))))))
def qo (a:Xaa):bP Xaz [] Tryz.f78 [.string a]=kM a:=av
def jS (a:Int):T :=
 cond (decide (a>=97))
 (cond (decide (a<=122))
 fR
 (cond (decide (a>=65))
 (cond (decide (a<=90))
 fR
 (T.ret (.bool (a==95))))
 (T.ret (.bool (a==95)))))
 (cond (decide (a>=65))
 (cond (decide (a<=90))
 fR
 (T.ret (.bool (a==95))))
 (T.ret (.bool (a==95))))
def oT (a:Int):bP Xaz [] Tryz.f105 [.int .u8 a]=jS a:=av
def kP (a:Int):T :=
 cond (decide (a>=48))
 (T.ret (.bool (decide (a<=57))))
 cC
def pK (a:Int):bP Xaz [] Tryz.f106 [.int .u8 a]=kP a:=av
def LH (d:Option Nat) (t:Xax) (x:Int) (u:Nat):T :=
 T.new [bm,aE 0] 53 λc =>
 T.aD c [bm,aE x] <|
 cv 90 [.map d] false [(false,[.func #[63] #[] false])] λ(y:Xab) =>
 cv 89 [y] false [(false,[.slice 9])] λz w C =>
 T.loop [aS] [vI 0] λn8 =>
 bz n8 w
 (aR n8 w z λA =>
 T.ah (A.add (aK n8 1)) [.string] λa =>
 dp (Instr.lookup 196 (.map d) (.string a) false) false [(false,[.int .u32])] λe =>
 cond (e != 0)
 (T.ah c [.slice 64] λf g b =>
 dp (Instr.lookup 196 (.map d) (.string a) false) false [(false,[.int .u32])] λh =>
 bg (Instr.buildSlice 50 1 #[(0,.agg #[.string a,aE h])]) λi j k =>
 bg (Builtin.append_ #[50,50] 50 #[.slice f g b,.slice i j k]) λl m n =>
 T.aD c [.slice l m n] <|
 T.again u [aY n8])
 (T.again u [aY n8]))
 (T.ah c (yL 64) λB l10 o p =>
 T.aD t [.slice B l10 o,aE p] <|
 T.ah t (yL 64) λq b r s =>
 T.ret (.agg #[.slice q b r,aE s]))
def zN (a:Option Nat) (b:Int):T :=
 T.new [bm,aE 0] 53 λc =>
 LH a c b 0
def Bc (a:Option Nat) (b:Int):bP Xaz [] Tryz.f91 [.map a,.int .u32 b]=zN a b:=av
def BU (a:Xac) (b c:Nat) (d:Int) (e:Xac) (f g:Nat) (h:Int):T :=
 T.new [.slice a b c,aE d] 53 λi =>
 T.new [.slice e f g,aE h] 53 λj =>
 T.new [bm,aE 0] 53 λk =>
 dp (Instr.makeMap 196 none) false [(false,[.map 0 0])] λl =>
 T.ah i [.slice 64] λm n o =>
 T.ah j [.slice 64] λp q r =>
 bg (Instr.buildSlice 59 2 #[(0,.slice m n o),(1,.slice p q r)]) λs t u =>
 T.loop [aS] [vI 0] λv =>
 bz v t
 (aR v t s λw =>
 T.ah (w.add (aK v 1)) [.slice 64] λx y z =>
 T.loop [aS] [vI 0] λA =>
 bz A y
 (aR A y x λB =>
 T.ah (B.add (aK A 2)) [.string,.int .u32] λC D =>
 T.new [bZ,aE 0] 64 λE =>
 T.aD E [.string C,aE D] <|
 T.ah E [.string] λF =>
 dp (Instr.lookup 196 (.map l) (.string F) false) false [(false,[.int .u32])] λG =>
 T.ah (E.add 1) [.int .u32] λH =>
 T.fI Xaz (Instr.mapUpdate 196 (.map l) (.string F) (aE (IntKind.wrap .u32 (G+H)))) <|
 T.again 1 [aY A])
 (T.again 0 [aY v]))
 (T.ah (i.add 1) [.int .u32] λw =>
 T.ah (j.add 1) [.int .u32] λx =>
 cv 91 [.map l,aE (IntKind.wrap .u32 (w+x))] false [(true,(yL 64))] λy z A B =>
 T.aD k [.slice y z A,aE B] <|
 T.ah k (yL 64) λC D E F =>
 T.ret (.agg #[.slice C D E,aE F]))
def CU (a:Xac) (b c:Nat) (d:Int) (e:Xac) (f g:Nat) (h:Int):bP Xaz [] Tryz.f66 [.agg #[.slice a b c,.int .u32 d],.agg #[.slice e f g,.int .u32 h]]=BU a b c d e f g h:=av
def Ex (g:Xax) (c:Int) (a:Xaa) (h:Bool):T :=
 T.ah g [.slice 64] λd e i =>
 T.need ((0<=(IntKind.wrap .i64 (c-1)))/\((IntKind.wrap .i64 (c-1))<(e:Int))) <|
 T.bh d λf =>
 T.ah (f.add ((Int.toNat (IntKind.wrap .i64 (c-1)))*2)) [.string] λb =>
 cond ((Op.bytesLess (ByteArray.toList a) (ByteArray.toList b)) || ((ByteArray.toList a)==(ByteArray.toList b)))
 (T.ret (.bool false))
 (T.again 0 [.bool h,vI (IntKind.wrap .i64 (c+1))])
def kV (a:Xac) (b c:Nat) (d:Int):T :=
 T.new [.slice a b c,aE d] 53 λe =>
 T.loop [cH,aS] [.bool false,vI 0] λf g =>
 T.ah e [.slice 64] λh i j =>
 bz g i
 (T.ah e [.slice 64] λk l m =>
 aR g l k λn =>
 T.ah (n.add (aK g 2)) [.string] λo =>
 bj 78 [.string o] λp =>
 T.bG [(e,[.slice k l m])] <|
 cond (!p)
 cC
 (T.ah e [.slice 64] λq r s =>
 aR g r q λt =>
 T.ah ((t.add (aK g 2)).add 1) [.int .u32] λu =>
 cond (u==0)
 cC
 (cond (decide (g>0))
 (T.ah e [.slice 64] λv w x =>
 aR g w v λy =>
 T.ah (y.add (aK g 2)) [.string] λz =>
 Ex e g z f)
 (T.again 0 [.bool f,aY g]))))
 fR
def pW (a:Xac) (b c:Nat) (d:Int):bP Xaz [] Tryz.f97 [.agg #[.slice a b c,.int .u32 d]]=kV a b c d:=av
def wO (a:Xac) (b c:Nat) (d:Int):T :=
 T.new [.slice a b c,aE d] 53 λe =>
 T.ah e [.slice 64] λf g h =>
 T.loop [cH,aS] [.bool false,vI 0] λi j =>
 bz j g
 (aR j g f λk =>
 T.ah (k.add (aK j 2)) [.string,.int .u32] λl m =>
 T.new [bZ,aE 0] 64 λn =>
 T.aD n [.string l,aE m] <|
 T.ah (n.add 1) [.int .u32] λo =>
 cond (o==0)
 cC
 (T.ah n [.string] λp =>
 bj 55 [.string p] λq =>
 T.bG [((n.add 1),[aE o])] <|
 cond (!q)
 cC
 (cond (decide (j>0))
 (T.ah n [.string] λr =>
 Ex e j r i)
 (T.again 0 [.bool i,aY j]))))
 fR
def Ai (a:Xac) (b c:Nat) (d:Int):bP Xaz [] Tryz.f56 [.agg #[.slice a b c,.int .u32 d]]=wO a b c d:=av
def zx (a:Xac) (b c:Nat) (d:Int) (e:Xac) (f g:Nat) (h:Int):T :=
 T.new [.slice a b c,aE d] 53 λi =>
 T.new [.slice e f g,aE h] 53 λj =>
 T.ah (i.add 1) [.int .u32] λk =>
 T.ah (j.add 1) [.int .u32] λl =>
 cond (k==l)
 (T.ah i [.slice 64] λm n o =>
 T.ah j [.slice 64] λp q r =>
 bj 112 [.slice m n o,.slice p q r] λs =>
 T.ret (.bool s))
 cC
def BN (a:Xac) (b c:Nat) (d:Int) (e:Xac) (f g:Nat) (h:Int):bP Xaz [] Tryz.f82 [.agg #[.slice a b c,.int .u32 d],.agg #[.slice e f g,.int .u32 h]]=zx a b c d e f g h:=av
def kZ (a:Xac) (b c:Nat) (d e:Int):T :=
 T.new [.slice a b c,aE d] 53 λf =>
 T.new [bm,aE 0] 53 λg =>
 T.ah (f.add 1) [.int .u32] λh =>
 T.new [bm,aE 0] 53 λi =>
 T.aD i [bm,aE (IntKind.wrap .u32 (h*e))] <|
 T.loop [aS] [vI 0] λj =>
 T.ah f [.slice 64] λk l m =>
 bz j l
 (T.ah f [.slice 64] λn o p =>
 aR j o n λq =>
 T.ah ((q.add (aK j 2)).add 1) [.int .u32] λr =>
 cond ((IntKind.wrap .u32 (r*e)) != 0)
 (T.ah i [.slice 64] λs t u =>
 T.ah f [.slice 64] λv w x =>
 aR j w v λy =>
 T.ah (y.add (aK j 2)) [.string] λz =>
 bg (Instr.buildSlice 50 1 #[(0,.agg #[.string z,aE (IntKind.wrap .u32 (r*e))])]) λA B C =>
 T.bG [((y.add (aK j 2)),[.string z]),(f,[.slice v w x]),(i,[.slice s t u])] <|
 bg (Builtin.append_ #[50,50] 50 #[.slice s t u,.slice A B C]) λD E F =>
 T.bG [((y.add (aK j 2)),[.string z]),(f,[.slice v w x])] <|
 T.aD i [.slice D E F] <|
 T.again 0 [aY j])
 (T.again 0 [aY j]))
 (T.ah i (yL 64) λn o p q =>
 T.aD g [.slice n o p,aE q] <|
 T.ah g (yL 64) λr s t u =>
 T.ret (.agg #[.slice r s t,aE u]))
def pM (a:Xac) (b c:Nat) (d e:Int):bP Xaz [] Tryz.f102 [.agg #[.slice a b c,.int .u32 d],.int .u32 e]=kZ a b c d e:=av
def eG (a:Xac) (b c:Nat) (d:Xac) (e f:Nat):T :=
 cond ((b:Int) != (e:Int))
 cC
 (T.loop [cH,aS] [.bool false,vI 0] λg h =>
 bz h b
 (aR h b a λi =>
 T.ah (i.add (aK h 2)) [.string,.int .u32] λj k =>
 aR h e d λl =>
 T.ah (l.add (aK h 2)) [.string,.int .u32] λm n =>
 ja (Sx.vr (BinOp.neq) 64 (Operand.tmp 19) (Operand.tmp 23) (.agg #[.string j,aE k]) (.agg #[.string m,aE n])) λo =>
 cond o
 cC
 (T.again 0 [.bool g,aY h]))
 fR)
def gP (a:Xac) (b c:Nat) (d:Xac) (e f:Nat):bP Xaz [] Tryz.f112 [.slice a b c,.slice d e f]=eG a b c d e f:=av
def Ph (j:Xax) (k:Xac) (l m:Nat):T :=
 T.ah (j.add 1) [.int .u32] λa =>
 T.call Xaz 68 [.int .u64 (IntKind.wrap .u64 a),vI 10] false [(false,[.string])] λb =>
 T.dP Xaz (Instr.buildSlice 68 1 #[(0,.string b)]) false [(false,[.slice 0])] λc d e =>
 T.dP Xaz (Builtin.append_ #[68,68] 68 #[.slice k l m,.slice c d e]) false [(false,[.slice 0])] λf g h =>
 T.call Xaz 69 [.slice f g h,.string ⟨#[43]⟩] false [(false,[.string])] λi =>
 T.ret (.string i)
def zO (a:Xac) (b c:Nat) (d:Int):T :=
 T.new [.slice a b c,aE d] 53 λe =>
 T.ah e [.slice 64] λf g h =>
 T.loop [fH,aS] [bm,vI 0] λi j k l =>
 bz l g
 (aR l g f λm =>
 T.ah (m.add (aK l 2)) [.string,.int .u32] λn o =>
 T.new [bZ,aE 0] 64 λp =>
 T.aD p [.string n,aE o] <|
 T.ah (p.add 1) [.int .u32] λq =>
 cond (q==1)
 (T.ah p [.string] λr =>
 bg (Instr.buildSlice 68 1 #[(0,.string r)]) λs t u =>
 bg (Builtin.append_ #[68,68] 68 #[.slice i j k,.slice s t u]) λv w x =>
 T.again 0 [.slice v w x,aY l])
 (T.ah (p.add 1) [.int .u32] λr =>
 T.ah p [.string] λs =>
 fo 68 [.int .u64 (IntKind.wrap .u64 r),vI 10] λt =>
 T.bG [(p,[.string s]),((p.add 1),[aE r])] <|
 T.need ((((t.size+1):Nat):Int)<=9223372036854775807) <|
 T.need (((((ByteArray.size (t++⟨#[42]⟩))+s.size):Nat):Int)<=9223372036854775807) <|
 bg (Instr.buildSlice 68 1 #[(0,.string ((t++⟨#[42]⟩)++s))]) λu v w =>
 T.bG [(p,[.string s]),((p.add 1),[aE r])] <|
 bg (Builtin.append_ #[68,68] 68 #[.slice i j k,.slice u v w]) λx y z =>
 T.bG [(p,[.string s]),((p.add 1),[aE r])] <|
 T.again 0 [.slice x y z,aY l]))
 (T.ah (e.add 1) [.int .u32] λm =>
 cond (m != 0)
 (Ph e i j k)
 (cond ((j:Int)==0)
 (Ph e i j k)
 (fo 69 [.slice i j k,.string ⟨#[43]⟩] λn =>
 T.ret (.string n))))
def CB (a:Xac) (b c:Nat) (d:Int):bP Xaz [] Tryz.f42 [.agg #[.slice a b c,.int .u32 d]]=zO a b c d:=av
def lz (a b:Int):T :=
 fo 92 [.int .u64 a,vI b] λc =>
 T.ret (.string c)
def qf (a b:Int):bP Xaz [] Tryz.f68 [.int .u64 a,vI b]=lz a b:=av
def fK (a b:Int):T :=
 cond (b==10)
 (cond (decide (a<100))
 (fo 118 [vI (bY a)] λc =>
 T.ret (.string c))
 (T.new [.int .u8 0,.int .u8 0,.int .u8 0,.int .u8 0,.int .u8 0,.int .u8 0,.int .u8 0,.int .u8 0,.int .u8 0,.int .u8 0,.int .u8 0,.int .u8 0,.int .u8 0,.int .u8 0,.int .u8 0,.int .u8 0,.int .u8 0,.int .u8 0,.int .u8 0,.int .u8 0,.int .u8 0,.int .u8 0,.int .u8 0,.int .u8 0] 234 λc =>
 cY 119 [.int .u64 a] λd =>
 bg (Instr.sliceAt 234 (.pointer (some c)) none (some (vI d)) none) λe f g =>
 cv 120 [.slice e f g,.int .u64 a] true [] <| bg (Instr.sliceAt 234 (.pointer (some c)) none (some (vI d)) none) λh i j =>
 dp (convert 204 9 (.slice h i j)) false [(false,[.string])] λk =>
 T.ret (.string k)))
 (cv 121 [bm,.int .u64 a,vI b,.bool false,.bool false] true [(false,[.slice 5]),(false,[.string])] λc d e f =>
 T.ret (.string f))
def jE (a b:Int):bP Xaz [] Tryz.f92 [.int .u64 a,vI b]=fK a b:=av
def nv (a:Xac) (b c:Nat) (d:Int) (e:Xac) (f g:Nat) (h:Int):T :=
 T.new [.slice a b c,aE d] 53 λi =>
 T.new [.slice e f g,aE h] 53 λj =>
 T.new [bm,aE 0] 53 λk =>
 T.ah (i.add 1) [.int .u32] λl =>
 T.ah (j.add 1) [.int .u32] λm =>
 T.new [bm,aE 0] 53 λn =>
 T.aD n [bm,aE (IntKind.wrap .u32 (l+m))] <|
 T.loop [aS,aS] [vI 0,vI 0] λo p =>
 T.join [cH]
 (T.ah i [.slice 64] λq r s =>
 bz o r
 (T.again 1 [.bool true])
 (T.ah j [.slice 64] λt u v =>
 T.again 1 [.bool (decide (p<(u:Int)))])) λq =>
 cond q
 (T.join [cH]
 (T.ah j [.slice 64] λr s t =>
 cond (p==(s:Int))
 (T.again 1 [.bool true])
 (T.ah i [.slice 64] λu v w =>
 bz o v
 (T.ah i [.slice 64] λx y z =>
 aR o y x λA =>
 T.ah (A.add (aK o 2)) [.string] λB =>
 T.ah j [.slice 64] λC D E =>
 aR p D C λF =>
 T.ah (F.add (aK p 2)) [.string] λG =>
 T.again 1 [.bool (Op.bytesLess (ByteArray.toList B) (ByteArray.toList G))])
 (T.again 1 [.bool false]))) λr =>
 cond r
 (T.ah n [.slice 64] λs t u =>
 T.ah i [.slice 64] λv w x =>
 aR o w v λy =>
 T.ah (y.add (aK o 2)) [.string,.int .u32] λz A =>
 bg (Instr.buildSlice 50 1 #[(0,.agg #[.string z,aE A])]) λB C D =>
 T.bG [(i,[.slice v w x]),(n,[.slice s t u])] <|
 bg (Builtin.append_ #[50,50] 50 #[.slice s t u,.slice B C D]) λE F G =>
 T.bG [((y.add (aK o 2)),[.string z,aE A]),(i,[.slice v w x])] <|
 T.aD n [.slice E F G] <|
 T.again 0 [aY o,vI p])
 (T.join [cH]
 (T.ah i [.slice 64] λs t u =>
 cond (o==(t:Int))
 (T.again 1 [.bool true])
 (T.ah j [.slice 64] λv w x =>
 aR p w v λy =>
 T.ah (y.add (aK p 2)) [.string] λz =>
 T.ah i [.slice 64] λA B C =>
 aR o B A λD =>
 T.ah (D.add (aK o 2)) [.string] λE =>
 T.again 1 [.bool (Op.bytesLess (ByteArray.toList z) (ByteArray.toList E))])) λs =>
 cond s
 (T.ah n [.slice 64] λt u v =>
 T.ah j [.slice 64] λw x y =>
 aR p x w λz =>
 T.ah (z.add (aK p 2)) [.string,.int .u32] λA B =>
 bg (Instr.buildSlice 50 1 #[(0,.agg #[.string A,aE B])]) λC D E =>
 T.bG [(j,[.slice w x y]),(n,[.slice t u v])] <|
 bg (Builtin.append_ #[50,50] 50 #[.slice t u v,.slice C D E]) λF G H =>
 T.bG [((z.add (aK p 2)),[.string A,aE B]),(j,[.slice w x y])] <|
 T.aD n [.slice F G H] <|
 T.again 0 [vI o,aY p])
 (T.ah i [.slice 64] λt u v =>
 aR o u t λw =>
 T.ah ((w.add (aK o 2)).add 1) [.int .u32] λx =>
 T.ah j [.slice 64] λy z A =>
 aR p z y λB =>
 T.ah ((B.add (aK p 2)).add 1) [.int .u32] λC =>
 T.join []
 (cond ((IntKind.wrap .u32 (x+C)) != 0)
 (T.ah n [.slice 64] λD E F =>
 T.ah i [.slice 64] λG H I =>
 aR o H G λJ =>
 T.ah (J.add (aK o 2)) [.string] λK =>
 bg (Instr.buildSlice 50 1 #[(0,.agg #[.string K,aE (IntKind.wrap .u32 (x+C))])]) λL M N =>
 T.bG [((J.add (aK o 2)),[.string K]),(i,[.slice G H I]),(n,[.slice D E F])] <|
 bg (Builtin.append_ #[50,50] 50 #[.slice D E F,.slice L M N]) λO P Q =>
 T.bG [((J.add (aK o 2)),[.string K]),(i,[.slice G H I])] <|
 T.aD n [.slice O P Q] <|
 T.again 1 [])
 (T.again 1 [])) <| T.again 0 [aY o,aY p])))
 (T.ah n (yL 64) λr s t u =>
 T.aD k [.slice r s t,aE u] <|
 T.ah k (yL 64) λv w x y =>
 T.ret (.agg #[.slice v w x,aE y]))
def rV (a:Xac) (b c:Nat) (d:Int) (e:Xac) (f g:Nat) (h:Int):bP Xaz [4,5,8,1014] Tryz.f74 [.agg #[.slice a b c,.int .u32 d],.agg #[.slice e f g,.int .u32 h]]=nv a b c d e f g h:=av
end Go.Sx
